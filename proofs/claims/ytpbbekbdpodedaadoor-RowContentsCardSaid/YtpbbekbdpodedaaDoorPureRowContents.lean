import Derived.Test.YtpbbekbdpodedaaDoorPR9
import Derived.Test.YtpbbekbdpodedaaDoorPL3
namespace Go.Proofs.YtpbbekbdpodedaaDoor.Pure
open Go.RowKit Go.Proofs.YtpbbekbdpodedaaDoor Go.Proofs.YtpbbekbdpodedaaDoor.PR Go.Proofs.YtpbbekbdpodedaaDoor.PL Go.Proofs.YtpbbekbdpodedaaDoorW.PrintWords Go.Proofs.YtpbbekbdpodedaaDoorW.PrintLast Go.Proofs.YtpbbekbdpodedaaDoorW.PrintMore H
set_option linter.unusedVariables false
set_option linter.unusedSimpArgs false

/-- The greatest common divisor of a number and a row's elements. -/
def contN : Nat → List Int → Nat
  | g, [] => g
  | g, x :: l => contN (Nat.gcd g x.natAbs) l
theorem rowAbs {x : Int} (h : -1000000000 ≤ x ∧ x ≤ 1000000000) : row_abs.f x = some (x.natAbs : Int) := by
  unfold row_abs.f
  rw [show wrap64 (-x) = -x from by unfold wrap64; omega]
  congr 1
  unfold mx
  split <;> omega
theorem refAbs {x : Int} (h : -1000000000 ≤ x ∧ x ≤ 1000000000) : schismaref05_Abs.f x = some (x.natAbs : Int) := by
  unfold schismaref05_Abs.f
  rw [show wrap64 (-x) = -x from by unfold wrap64; omega]
  split <;> (congr 1; omega)
theorem cont_l1 (l : List Int) (i : Nat) (R : Nat → Int × Int) (hlt : i < l.length) (hl : l.length ≤ 64) (hn : ∀ g : Nat, Ev (fun k => row_Content.l0 k g l (l.length : Int) ((i + 1 : Nat) : Int)) (R g)) :
    ∀ (x g : Nat), Ev (fun k => row_Content.l1 k g x l (l.length : Int) i) (R (Nat.gcd g x)) := by
  intro x
  induction x using Nat.strongRecOn with
  | _ x ih =>
    intro g
    by_cases hx : x = 0
    · subst hx
      rw [Nat.gcd_zero_right]
      refine Ev.step (fun k => ?_) (hn g)
      simp only [row_Content.l1]
      rw [if_pos (by rfl), wr1 hlt (by omega)]
    · have h1 := ih (g % x) (Nat.mod_lt _ (Nat.pos_of_ne_zero hx)) x
      have e : Nat.gcd g x = Nat.gcd x (g % x) := by rw [Nat.gcd_comm g x, Nat.gcd_rec x g, Nat.gcd_comm]
      rw [e]
      refine Ev.step (fun k => ?_) h1
      simp only [row_Content.l1]
      rw [if_neg (by omega), Int.ofNat_tmod]
theorem cont_l0 (l : List Int) (hl : l.length ≤ 64) (hb : ∀ x ∈ l, -1000000000 ≤ x ∧ x ≤ 1000000000) (d : Nat) : ∀ (i : Nat) (g : Nat), l.length - i = d → i ≤ l.length → Ev (fun k => row_Content.l0 k g l (l.length : Int) i) ((contN g (l.drop i) : Int), 0) := by
  induction d with
  | zero =>
    intro i g hd hi
    refine Ev.step (f := fun _ => some ((contN g (l.drop i) : Int), 0)) (fun k => ?_) (Ev.now _)
    simp only [row_Content.l0]
    rw [if_neg (by omega), List.drop_eq_nil_of_le (by omega)]
    rfl
  | succ d ih =>
    intro i g hd hi
    have hlt : i < l.length := by omega
    have hx := hb _ (rd_mem l i hlt)
    have h1 := cont_l1 l i (fun g => ((contN g (l.drop (i + 1)) : Int), 0)) hlt hl (fun g => ih (i + 1) g (by omega) (by omega)) (rd l i).natAbs g
    rw [drop_rd l i hlt]
    refine Ev.step (fun k => ?_) h1
    simp only [row_Content.l0]
    rw [if_pos (by omega), if_pos (by omega), if_pos (by omega), rowAbs hx]
    rfl
theorem rowContent {l : List Int} (h : chk l = 0) : Ev (fun k => row_Content.f k l) ((contN 0 l : Int), 0) := by
  obtain ⟨hl, hb⟩ := chk_ok h
  have := cont_l0 l hl hb l.length 0 0 (by omega) (by omega)
  refine Ev.congr (fun k => ?_) this
  unfold row_Content.f row_Check.f
  simp only [Option.bind_some]
  rw [if_pos h]
  rfl
theorem refGcd : ∀ (x g : Nat), Ev (fun k => schismaref05_Gcd.l0 k g x) ((Nat.gcd g x : Nat) : Int) := by
  intro x
  induction x using Nat.strongRecOn with
  | _ x ih =>
    intro g
    by_cases hx : x = 0
    · subst hx
      rw [Nat.gcd_zero_right]
      refine Ev.step (f := fun _ => some (g : Int)) (fun k => ?_) (Ev.now _)
      simp only [schismaref05_Gcd.l0]
      rw [if_neg (by omega)]
    · have h1 := ih (g % x) (Nat.mod_lt _ (Nat.pos_of_ne_zero hx)) x
      have e : Nat.gcd g x = Nat.gcd x (g % x) := by rw [Nat.gcd_comm g x, Nat.gcd_rec x g, Nat.gcd_comm]
      rw [e]
      refine Ev.step (fun k => ?_) h1
      simp only [schismaref05_Gcd.l0]
      rw [if_pos (by omega), if_neg (by omega), Int.ofNat_tmod]
theorem refCont_l (l : List Int) (hl : l.length ≤ 64) (hb : ∀ x ∈ l, -1000000000 ≤ x ∧ x ≤ 1000000000) (d : Nat) : ∀ (i : Nat) (g : Nat), l.length - i = d → i ≤ l.length → Ev (fun k => schismaref05_Content.l0 k l g i) (contN g (l.drop i) : Int) := by
  induction d with
  | zero =>
    intro i g hd hi
    refine Ev.step (f := fun _ => some (contN g (l.drop i) : Int)) (fun k => ?_) (Ev.now _)
    simp only [schismaref05_Content.l0]
    rw [if_neg (by omega), List.drop_eq_nil_of_le (by omega)]
    rfl
  | succ d ih =>
    intro i g hd hi
    have hlt : i < l.length := by omega
    have hx := hb _ (rd_mem l i hlt)
    have h1 := Ev.bind (refGcd (rd l i).natAbs g) (f := fun k t => schismaref05_Content.l0 k l t (wrap64 ((i : Int) + 1))) (r := (contN (Nat.gcd g (rd l i).natAbs) (l.drop (i + 1)) : Int)) (by
      have := ih (i + 1) (Nat.gcd g (rd l i).natAbs) (by omega) (by omega)
      rw [wr1 hlt (by omega)]
      exact this)
    rw [drop_rd l i hlt]
    refine Ev.step (fun k => ?_) h1
    simp only [schismaref05_Content.l0, schismaref05_Gcd.f]
    rw [if_pos (by omega), if_pos (by omega), refAbs hx]
    rfl
theorem refContent {l : List Int} (h : chk l = 0) : Ev (fun k => schismaref05_Content.f k l) (contN 0 l : Int) := by
  obtain ⟨hl, hb⟩ := chk_ok h
  exact refCont_l l hl hb l.length 0 0 (by omega) (by omega)

/-! ### the content divides -/
theorem contN_dvd : ∀ (l : List Int) (g : Nat), contN g l ∣ g ∧ ∀ x ∈ l, contN g l ∣ x.natAbs
  | [], g => ⟨Nat.dvd_refl _, by simp⟩
  | x :: l, g => by
    obtain ⟨h1, h2⟩ := contN_dvd l (Nat.gcd g x.natAbs)
    refine ⟨Nat.dvd_trans h1 (Nat.gcd_dvd_left _ _), fun y hy => ?_⟩
    rcases List.mem_cons.1 hy with rfl | hy
    · exact Nat.dvd_trans h1 (Nat.gcd_dvd_right _ _)
    · exact h2 y hy
theorem contN_zero (l : List Int) : contN 0 l = 0 ↔ zro l = true := by
  have key : ∀ (l : List Int) (g : Nat), contN g l = 0 ↔ g = 0 ∧ zro l = true := by
    intro l
    induction l with
    | nil => intro g; simp [contN, zro]
    | cons x l ih =>
      intro g
      unfold contN
      rw [ih, Nat.gcd_eq_zero_iff]
      simp [zro, and_assoc]
  simpa using key l 0

/-! ### Primitive -/
/-- A row, each element divided. -/
def divL (l : List Int) (c : Nat) : List Int := l.map fun x => wrap64 (Int.tdiv x c)
theorem rowPrim_l (l : List Int) (hl : l.length ≤ 64) (c : Nat) (hc : c ≠ 0) (d : Nat) : ∀ (i k : Nat) (out : List Int), l.length - i = d → i ≤ l.length → out.length ≤ i → d < k → row_Primitive.l0 k c out l (l.length : Int) i = some (out ++ divL (l.drop i) c, 0) := by
  induction d with
  | zero =>
    intro i k out hd hi ho hk
    obtain ⟨k, rfl⟩ := pred hk
    simp only [row_Primitive.l0]
    rw [if_neg (by omega), List.drop_eq_nil_of_le (by omega)]
    simp [divL]
  | succ d ih =>
    intro i k out hd hi ho hk
    obtain ⟨k, rfl⟩ := pred hk
    have hlt : i < l.length := by omega
    simp only [row_Primitive.l0]
    rw [if_pos (by omega), if_pos (by omega), if_pos (by omega), if_neg (by omega), if_pos (by omega), drop_rd l i hlt, wr1 hlt (by omega), ih (i + 1) k _ (by omega) (by omega) (by simp; omega) (by omega)]
    simp [divL]
theorem refPrim_l (l : List Int) (hl : l.length ≤ 64) (c : Nat) (hc : c ≠ 0) (d : Nat) : ∀ (i k : Nat) (out : List Int), l.length - i = d → i ≤ l.length → out.length ≤ i → d < k → schismaref05_Primitive.l0 k l c out i = some (out ++ divL (l.drop i) c) := by
  induction d with
  | zero =>
    intro i k out hd hi ho hk
    obtain ⟨k, rfl⟩ := pred hk
    simp only [schismaref05_Primitive.l0]
    rw [if_neg (by omega), List.drop_eq_nil_of_le (by omega)]
    simp [divL]
  | succ d ih =>
    intro i k out hd hi ho hk
    obtain ⟨k, rfl⟩ := pred hk
    have hlt : i < l.length := by omega
    simp only [schismaref05_Primitive.l0]
    rw [if_pos (by omega), if_pos (by omega), if_neg (by omega), if_pos (by omega), drop_rd l i hlt, wr1 hlt (by omega), ih (i + 1) k _ (by omega) (by omega) (by simp; omega) (by omega)]
    simp [divL]
theorem rowPrim {l : List Int} (h : chk l = 0) : Ev (fun k => row_Primitive.f k l) (if contN 0 l = 0 then ([], 17) else (divL l (contN 0 l), 0)) := by
  obtain ⟨hl, hb⟩ := chk_ok h
  obtain ⟨K, hK⟩ := rowContent h
  refine ⟨K + 100, fun k hk => ?_⟩
  have h1 := hK k (by omega)
  simp only at h1
  simp only [row_Primitive.f]
  rw [h1]
  simp only [Option.bind_some, if_true]
  by_cases hc : contN 0 l = 0
  · rw [if_pos hc, if_pos (by omega)]
  · rw [if_neg hc, if_neg (by omega), if_pos (by omega), if_pos (by rw [Int.toNat_natCast]; omega)]
    have := rowPrim_l l hl (contN 0 l) hc l.length 0 k [] (by omega) (by omega) (by simp) (by omega)
    simpa using this
theorem refPrim {l : List Int} (h : chk l = 0) (hc : contN 0 l ≠ 0) : Ev (fun k => schismaref05_Primitive.f k l) (divL l (contN 0 l)) := by
  obtain ⟨hl, hb⟩ := chk_ok h
  obtain ⟨K, hK⟩ := refContent h
  refine ⟨K + 100, fun k hk => ?_⟩
  have h1 := hK k (by omega)
  simp only at h1
  simp only [schismaref05_Primitive.f]
  rw [h1]
  simp only [Option.bind_some]
  have := refPrim_l l hl (contN 0 l) hc l.length 0 k [] (by omega) (by omega) (by simp) (by omega)
  simpa using this

/-! ### Normal -/
/-- Is the first element that is not 0 negative? -/
def nsgn : List Int → Bool
  | [] => false
  | x :: l => if x < 0 then true else if x > 0 then false else nsgn l
def normL (l : List Int) : List Int := if nsgn l = true then l.map (fun x => wrap64 (-x)) else l
theorem refNorm_l (l : List Int) (hl : l.length ≤ 64) (d : Nat) : ∀ (i k : Nat), l.length - i = d → i ≤ l.length → d + 100 < k → schismaref05_Normal.l0 k l i = some (if nsgn (l.drop i) = true then l.map (fun x => wrap64 (-x)) else l) := by
  induction d with
  | zero =>
    intro i k hd hi hk
    obtain ⟨k, rfl⟩ := pred (show 0 < k by omega)
    simp only [schismaref05_Normal.l0]
    rw [if_neg (by omega), List.drop_eq_nil_of_le (by omega)]
    simp only [Option.bind_some, List.length_nil, Nat.zero_add, List.nil_append]
    rw [if_pos (by omega)]
    simp [nsgn]
  | succ d ih =>
    intro i k hd hi hk
    obtain ⟨k, rfl⟩ := pred (show 0 < k by omega)
    have hlt : i < l.length := by omega
    simp only [schismaref05_Normal.l0]
    rw [if_pos (by omega), if_pos (by omega), drop_rd l i hlt]
    unfold nsgn
    by_cases h1 : rd l i < 0
    · rw [if_pos h1, if_pos h1, if_pos rfl, refNeg l (by omega) (by omega)]
      rfl
    · rw [if_neg h1, if_neg h1]
      by_cases h2 : rd l i > 0
      · rw [if_pos h2, if_pos h2]
        simp only [Option.bind_some, List.length_nil, Nat.zero_add, List.nil_append]
        rw [if_pos (by omega)]
        simp
      · rw [if_neg h2, if_neg h2, wr1 hlt (by omega), ih (i + 1) k (by omega) (by omega) (by omega)]
theorem refNormal {l : List Int} (h : chk l = 0) {k : Nat} (hk : 200 ≤ k) : schismaref05_Normal.f k l = some (normL l) := by
  obtain ⟨hl, hb⟩ := chk_ok h
  have := refNorm_l l hl l.length 0 k (by omega) (by omega) (by omega)
  simpa [schismaref05_Normal.f, normL] using this
theorem idx_cons (x : Int) (l : List Int) : idx nzB (x :: l) = if x ≠ 0 then 0 else if 0 ≤ idx nzB l then idx nzB l + 1 else -1 := by
  unfold idx
  rw [List.findIdx?_cons]
  by_cases hx : x = 0
  · subst hx
    simp only [nzB]
    cases h : List.findIdx? nzB l with
    | none => simp [h]
    | some j => simp [h]
  · simp [nzB, hx]
theorem idx_sgn : ∀ (l : List Int), (idx nzB l < 0 → nsgn l = false) ∧ (0 ≤ idx nzB l → idx nzB l < l.length ∧ (nsgn l = true ↔ rd l (idx nzB l) < 0))
  | [] => ⟨fun _ => rfl, fun h => by simp [idx] at h⟩
  | x :: l => by
    obtain ⟨h1, h2⟩ := idx_sgn l
    by_cases hx : x = 0
    · subst hx
      have en : nsgn (0 :: l) = nsgn l := by simp [nsgn]
      rw [en]
      by_cases h0 : 0 ≤ idx nzB l
      · have ei : idx nzB (0 :: l) = idx nzB l + 1 := by rw [idx_cons, if_neg (by simp), if_pos h0]
        rw [ei]
        obtain ⟨h3, h4⟩ := h2 h0
        refine ⟨fun h => by omega, fun _ => ⟨by simp only [List.length_cons]; omega, ?_⟩⟩
        rw [h4]
        obtain ⟨j, hj⟩ : ∃ j : Nat, idx nzB l = j := ⟨(idx nzB l).toNat, by omega⟩
        rw [hj]
        have : rd (0 :: l) ((j : Int) + 1) = rd l j := by
          unfold rd
          rw [show ((j : Int) + 1).toNat = j + 1 from by omega, Int.toNat_natCast]
          rfl
        rw [this]
      · have ei : idx nzB (0 :: l) = -1 := by rw [idx_cons, if_neg (by simp), if_neg h0]
        rw [ei]
        exact ⟨fun _ => h1 (by omega), fun h => by omega⟩
    · have ei : idx nzB (x :: l) = 0 := by rw [idx_cons, if_pos hx]
      rw [ei]
      refine ⟨fun h => by omega, fun _ => ⟨by simp only [List.length_cons]; omega, ?_⟩⟩
      have : rd (x :: l) 0 = x := rfl
      rw [this]
      unfold nsgn
      by_cases h3 : x < 0
      · rw [if_pos h3]
        simp [h3]
      · rw [if_neg h3, if_pos (by omega)]
        simp [h3]
theorem neg_eq {l : List Int} (h : chk l = 0) : scaleR l (-1) = (l.map (fun x => wrap64 (-x)), 0) := by
  obtain ⟨hl, hb⟩ := chk_ok h
  have e : (l.map fun x => wrap64 (-1 * x)) = l.map fun x => wrap64 (-x) := by
    apply List.map_congr_left
    intro x hx
    rw [show -1 * x = -x from by omega]
  have hc : chk (l.map fun x => wrap64 (-x)) = 0 := by
    rw [all_chk (by simp; omega), if_pos]
    rw [List.all_eq_true]
    intro y hy
    obtain ⟨x, hx, rfl⟩ := List.mem_map.1 hy
    have := hb x hx
    exact fitB_true (by unfold wrap64; omega) (by unfold wrap64; omega)
  unfold scaleR
  rw [if_pos h, if_pos (by decide), e, hc]
  unfold okR
  rw [if_pos hc]
theorem rowNormal {l : List Int} (h : chk l = 0) {k : Nat} (hk : 200 ≤ k) : row_Normal.f k l = some (normL l, 0) := by
  obtain ⟨hl, hb⟩ := chk_ok h
  obtain ⟨h1, h2⟩ := idx_sgn l
  have hneg : row_Neg.f k l = some (l.map (fun x => wrap64 (-x)), 0) := by unfold row_Neg.f; rw [rowScale l (-1) (by omega), neg_eq h]; rfl
  unfold row_Normal.f row_Check.f IndexFunc_58.f normL
  simp only [Option.bind_some]
  rw [if_pos h]
  by_cases h0 : 0 ≤ idx nzB l
  · obtain ⟨h3, h4⟩ := h2 h0
    rw [if_pos h0, if_pos h0, if_pos h3]
    by_cases h5 : rd l (idx nzB l) < 0
    · rw [if_pos h5, if_pos (h4.2 h5), hneg]
      rfl
    · rw [if_neg h5, if_neg (fun e => h5 (h4.1 e))]
      simp only [List.length_nil, Nat.zero_add, List.nil_append]
      rw [if_pos (by omega)]
  · rw [if_neg h0, h1 (by omega)]
    simp only [List.length_nil, Nat.zero_add, List.nil_append]
    rw [if_pos (by omega)]
    simp
theorem normL_length (l : List Int) : (normL l).length = l.length := by unfold normL; split <;> simp

/-! ### content times the primitive row -/
theorem div_facts {l : List Int} (h : chk l = 0) (hc : contN 0 l ≠ 0) : chk (divL l (contN 0 l)) = 0 ∧ (divL l (contN 0 l)).map (fun x => x * (contN 0 l : Int)) = l ∧ fitB (contN 0 l : Int) = true := by
  obtain ⟨hl, hb⟩ := chk_ok h
  have hd := (contN_dvd l 0).2
  have hz : ¬ zro l = true := fun e => hc ((contN_zero l).2 e)
  generalize contN 0 l = c at hc hd ⊢
  have el : ∀ x ∈ l, wrap64 (Int.tdiv x c) = Int.tdiv x c ∧ Int.tdiv x c * c = x ∧ -1000000000 ≤ Int.tdiv x c ∧ Int.tdiv x c ≤ 1000000000 := by
    intro x hx
    have hb' := hb x hx
    have hdx : (c : Int) ∣ x := by have := Int.ofNat_dvd.2 (hd x hx); exact Int.dvd_natAbs.1 this
    have e1 : Int.tdiv x c * c = x := Int.tdiv_mul_cancel hdx
    have hn : (Int.tdiv x c).natAbs ≤ x.natAbs := Int.natAbs_tdiv_le_natAbs x c
    refine ⟨by unfold wrap64; omega, e1, by omega, by omega⟩
  refine ⟨?_, ?_, ?_⟩
  · rw [all_chk (by simp [divL]; omega), if_pos]
    rw [List.all_eq_true]
    intro y hy
    obtain ⟨x, hx, rfl⟩ := List.mem_map.1 hy
    obtain ⟨e1, _, e3, e4⟩ := el x hx
    show fitB (wrap64 (Int.tdiv x c)) = true
    rw [e1]
    exact fitB_true e3 e4
  · unfold divL
    rw [List.map_map]
    conv => rhs; rw [← List.map_id l]
    apply List.map_congr_left
    intro x hx
    obtain ⟨e1, e2, _⟩ := el x hx
    simp only [Function.comp_apply, id]
    rw [e1, e2]
  · have : ∃ x ∈ l, x ≠ 0 := by
      apply Classical.byContradiction
      intro hn
      exact hz ((zro_iff l).2 fun x hx => Classical.byContradiction fun h' => hn ⟨x, hx, h'⟩)
    obtain ⟨x, hx, hne⟩ := this
    have hle := Nat.le_of_dvd (by omega) (hd x hx)
    have := hb x hx
    exact fitB_true (by omega) (by omega)

theorem RowContents : schismalaw05_RowContents.Pure := by
  intro l _ _ _
  by_cases hn : (l.length : Int) > 80
  · refine ⟨1000, ?_⟩
    unfold schismalaw05_RowContents.f
    rw [known_any (by omega)]
    simp only [Option.bind_some, if_true, decide_eq_true hn, schismalaw05_RowContents.j0]
    rw [known_any (by omega)]
    rfl
  · by_cases hc : chk l = 0
    · obtain ⟨hl, hb⟩ := chk_ok hc
      obtain ⟨K1, h1⟩ := rowContent hc
      obtain ⟨K2, h2⟩ := rowPrim hc
      obtain ⟨K3, h3⟩ := refContent hc
      by_cases hz : contN 0 l = 0
      · have hz' := (contN_zero l).1 hz
        refine ⟨(K1 + K2 + K3 + 1000) + 2, ?_⟩
        unfold schismalaw05_RowContents.f
        rw [known_any (by omega)]
        simp only [Option.bind_some, if_true, decide_eq_false hn, schismalaw05_RowContents.j0, Bool.false_eq_true, if_false]
        have e1 := h1 (K1 + K2 + K3 + 1000 + 1) (by omega)
        have e2 := h2 (K1 + K2 + K3 + 1000 + 1) (by omega)
        have e3 := h3 (K1 + K2 + K3 + 1000 + 1) (by omega)
        simp only at e1 e2 e3
        rw [e1, e2, rowNormal hc (by omega), refCheck l (by omega), hc]
        simp only [Option.bind_some, if_true, hz]
        rw [hz] at e3
        rw [e3]
        simp only [Option.bind_some, if_true]
        rw [refNormal hc (by omega)]
        simp only [Option.bind_some]
        rw [refEqual _ _ (by rw [normL_length]; omega) (by rw [normL_length]; omega) (by rw [normL_length]; omega), decide_eq_true rfl]
        simp only [Option.bind_some, Bool.not_true, schismalaw05_RowContents.j1, Bool.false_eq_true, if_false]
        rw [refIsZero l (by omega) (by omega), hz']
        simp
      · have hz' : zro l = false := by
          cases h : zro l with
          | true => exact absurd ((contN_zero l).2 h) hz
          | false => rfl
        obtain ⟨d1, d2, d3⟩ := div_facts hc hz
        obtain ⟨K4, h4⟩ := refPrim hc hz
        refine ⟨(K1 + K2 + K3 + K4 + 3000) + 2, ?_⟩
        unfold schismalaw05_RowContents.f
        rw [known_any (by omega)]
        simp only [Option.bind_some, if_true, decide_eq_false hn, schismalaw05_RowContents.j0, Bool.false_eq_true, if_false]
        have e1 := h1 (K1 + K2 + K3 + K4 + 3000 + 1) (by omega)
        have e2 := h2 (K1 + K2 + K3 + K4 + 3000 + 1) (by omega)
        have e3 := h3 (K1 + K2 + K3 + K4 + 3000 + 1) (by omega)
        have e4 := h4 (K1 + K2 + K3 + K4 + 3000) (by omega)
        simp only at e1 e2 e3 e4
        rw [if_neg hz] at e2
        rw [e1, e2, rowNormal hc (by omega), refCheck l (by omega), hc]
        simp only [Option.bind_some, if_true]
        rw [e3]
        simp only [Option.bind_some, if_true]
        rw [refNormal hc (by omega)]
        simp only [Option.bind_some]
        rw [refEqual _ _ (by rw [normL_length]; omega) (by rw [normL_length]; omega) (by rw [normL_length]; omega), decide_eq_true rfl]
        simp only [Option.bind_some, Bool.not_true, schismalaw05_RowContents.j1, Bool.false_eq_true, if_false]
        rw [refIsZero l (by omega) (by omega), hz']
        simp only [Option.bind_some, Bool.false_eq_true, if_false]
        rw [refScale d1 _ (by omega)]
        have hs : scaleT (divL l (contN 0 l)) (contN 0 l : Int) = (l, true) := by
          unfold scaleT
          have hdz : ¬ zro (divL l (contN 0 l)) = true := by
            intro e
            rw [zro_iff] at e
            have : zro l = true := by
              rw [zro_iff]
              intro x hx
              rw [← d2] at hx
              obtain ⟨y, hy, rfl⟩ := List.mem_map.1 hx
              rw [e y hy]
              simp
            rw [hz'] at this
            cases this
          rw [if_neg hdz, if_pos d3, d2]
          unfold combR
          rw [if_pos (by
            rw [List.all_eq_true]
            intro x hx
            exact fitB_true (hb x hx).1 (hb x hx).2)]
          rfl
        have dl : (divL l (contN 0 l)).length = l.length := by simp [divL]
        rw [hs, e4]
        simp only [Option.bind_some, if_true]
        rw [refEqual _ _ (by omega) (by omega) (by omega), decide_eq_true rfl]
        simp only [Option.bind_some, if_true]
        rw [refEqual _ _ (by omega) (by omega) (by omega), decide_eq_true rfl]
        rfl
    · refine ⟨1000, ?_⟩
      unfold schismalaw05_RowContents.f
      rw [known_any (by omega)]
      simp only [Option.bind_some, if_true, decide_eq_false hn, schismalaw05_RowContents.j0, Bool.false_eq_true, if_false]
      rw [refCheck l (by omega)]
      have c1 : row_Content.f 999 l = some (0, chk l) := by unfold row_Content.f row_Check.f; simp only [Option.bind_some]; rw [if_neg hc]
      have c2 : row_Primitive.f 999 l = some ([], chk l) := by unfold row_Primitive.f; rw [c1]; simp only [Option.bind_some]; rw [if_neg hc]
      have c3 : row_Normal.f 999 l = some ([], chk l) := by unfold row_Normal.f row_Check.f; simp only [Option.bind_some]; rw [if_neg hc]
      rw [c1, c2, c3]
      simp [hc, wrap64]
end Go.Proofs.YtpbbekbdpodedaaDoor.Pure
