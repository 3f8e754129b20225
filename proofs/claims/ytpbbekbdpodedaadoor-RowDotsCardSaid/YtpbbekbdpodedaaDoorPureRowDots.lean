import Derived.Test.YtpbbekbdpodedaaDoorPR16
import Derived.Test.YtpbbekbdpodedaaDoorPL2
namespace Go.Proofs.YtpbbekbdpodedaaDoor.Pure
open Go.RowKit Go.Proofs.YtpbbekbdpodedaaDoor Go.Proofs.YtpbbekbdpodedaaDoor.PR Go.Proofs.YtpbbekbdpodedaaDoor.PL Go.Proofs.YtpbbekbdpodedaaDoorW.PrintWords Go.Proofs.YtpbbekbdpodedaaDoorW.PrintLast Go.Proofs.YtpbbekbdpodedaaDoorW.PrintMore H
set_option linter.unusedVariables false
set_option linter.unusedSimpArgs false

def absI (x : Int) : Int := if x < 0 then -x else x
def sumA : List Int → Int
  | [] => 0
  | x :: l => absI x + sumA l
def maxA : Int → List Int → Int
  | s, [] => s
  | s, x :: l => maxA (mx s (absI x)) l
theorem absI_b {x : Int} (h : -1000000000 ≤ x ∧ x ≤ 1000000000) : 0 ≤ absI x ∧ absI x ≤ 1000000000 := by unfold absI; split <;> omega
theorem rowAbs {x : Int} (h : -1000000000 ≤ x ∧ x ≤ 1000000000) : row_abs.f x = some (absI x) := by
  unfold row_abs.f absI
  rw [show wrap64 (-x) = -x from by unfold wrap64; omega]
  congr 1
  unfold mx
  split <;> split <;> omega
theorem refAbs {x : Int} (h : -1000000000 ≤ x ∧ x ≤ 1000000000) : schismaref05_Abs.f x = some (absI x) := by
  unfold schismaref05_Abs.f absI
  rw [show wrap64 (-x) = -x from by unfold wrap64; omega]
  split <;> rfl
theorem rowFits (x : Int) : row_fits.f x = some (fitB x) := by
  unfold row_fits.f
  by_cases h1 : x ≥ -1000000000
  · rw [if_pos h1]
    by_cases h2 : x ≤ 1000000000
    · rw [decide_eq_true h2, fitB_true h1 h2]
    · rw [decide_eq_false h2, fitB_hi (by omega)]
  · rw [if_neg h1, fitB_lo (by omega)]
theorem sumA_b (l : List Int) (h : ∀ x ∈ l, -1000000000 ≤ x ∧ x ≤ 1000000000) : 0 ≤ sumA l ∧ sumA l ≤ 1000000000 * l.length := by
  induction l with
  | nil => simp [sumA]
  | cons x l ih =>
    have h1 := ih (fun y hy => h y (List.mem_cons_of_mem _ hy))
    have h2 := absI_b (h x List.mem_cons_self)
    simp only [sumA, List.length_cons]
    omega
/-- What Sum returns. -/
def sumR (x : Int) : Int × Int := if fitB x = true then (x, 0) else (0, 4)
theorem rowSum_l (l : List Int) (hl : l.length ≤ 64) (hb : ∀ x ∈ l, -1000000000 ≤ x ∧ x ≤ 1000000000) (d : Nat) : ∀ (i k : Nat) (s : Int), l.length - i = d → i ≤ l.length → 0 ≤ s → s ≤ 1000000000 * i → d < k →
    row_Sum.l0 k s l (l.length : Int) i = some (sumR (s + sumA (l.drop i))) := by
  induction d with
  | zero =>
    intro i k s hd hi h0 h1 hk
    obtain ⟨k, rfl⟩ := pred hk
    simp only [row_Sum.l0]
    rw [if_neg (by omega), List.drop_eq_nil_of_le (by omega), rowFits]
    simp only [Option.bind_some, sumA, Int.add_zero]
    unfold sumR
    split <;> rfl
  | succ d ih =>
    intro i k s hd hi h0 h1 hk
    obtain ⟨k, rfl⟩ := pred hk
    have hlt : i < l.length := by omega
    have hx := hb _ (rd_mem l i hlt)
    have ha := absI_b hx
    simp only [row_Sum.l0]
    rw [if_pos (by omega), if_pos (by omega), if_pos (by omega), rowAbs hx, drop_rd l i hlt, wr1 hlt (by omega)]
    simp only [Option.bind_some, sumA]
    rw [show wrap64 (s + absI (rd l i)) = s + absI (rd l i) from by unfold wrap64; omega, ih (i + 1) k (s + absI (rd l i)) (by omega) (by omega) (by omega) (by omega) (by omega)]
    rw [Int.add_assoc]
theorem rowMax_l (l : List Int) (hl : l.length ≤ 64) (hb : ∀ x ∈ l, -1000000000 ≤ x ∧ x ≤ 1000000000) (d : Nat) : ∀ (i k : Nat) (s : Int), l.length - i = d → i ≤ l.length → d < k →
    row_Max.l0 k s l (l.length : Int) i = some (maxA s (l.drop i), 0) := by
  induction d with
  | zero =>
    intro i k s hd hi hk
    obtain ⟨k, rfl⟩ := pred hk
    simp only [row_Max.l0]
    rw [if_neg (by omega), List.drop_eq_nil_of_le (by omega)]
    rfl
  | succ d ih =>
    intro i k s hd hi hk
    obtain ⟨k, rfl⟩ := pred hk
    have hlt : i < l.length := by omega
    have hx := hb _ (rd_mem l i hlt)
    simp only [row_Max.l0]
    rw [if_pos (by omega), if_pos (by omega), if_pos (by omega), rowAbs hx, drop_rd l i hlt, wr1 hlt (by omega)]
    simp only [Option.bind_some, maxA]
    rw [ih (i + 1) k _ (by omega) (by omega) (by omega)]
theorem rowSum (l : List Int) {k : Nat} (hk : 100 ≤ k) : row_Sum.f k l = some (if chk l = 0 then sumR (sumA l) else (0, chk l)) := by
  unfold row_Sum.f row_Check.f
  simp only [Option.bind_some]
  by_cases h : chk l = 0
  · rw [if_pos h, if_pos h]
    obtain ⟨hl, hb⟩ := chk_ok h
    have := rowSum_l l hl hb l.length 0 k 0 (by omega) (by omega) (by omega) (by omega) (by omega)
    rw [List.drop_zero, Int.zero_add] at this
    exact this
  · rw [if_neg h, if_neg h]
theorem rowMax (l : List Int) {k : Nat} (hk : 100 ≤ k) : row_Max.f k l = some (if chk l = 0 then (maxA 0 l, 0) else (0, chk l)) := by
  unfold row_Max.f row_Check.f
  simp only [Option.bind_some]
  by_cases h : chk l = 0
  · rw [if_pos h, if_pos h]
    obtain ⟨hl, hb⟩ := chk_ok h
    have := rowMax_l l hl hb l.length 0 k 0 (by omega) (by omega) (by omega)
    rw [List.drop_zero] at this
    exact this
  · rw [if_neg h, if_neg h]

theorem dotp_cons (x : Int × Int) (l : List (Int × Int)) : dotp (x :: l) = x.1 * x.2 + dotp l := by
  have key : ∀ (l : List (Int × Int)) (s : Int), l.foldl (fun s x => s + x.1 * x.2) s = s + l.foldl (fun s x => s + x.1 * x.2) 0 := by
    intro l
    induction l with
    | nil => intro s; simp
    | cons y l ih =>
      intro s
      rw [List.foldl_cons, List.foldl_cons, ih (s + y.1 * y.2), ih (0 + y.1 * y.2)]
      omega
  unfold dotp
  rw [List.foldl_cons, key]
  omega
theorem refDot_l (a b : List Int) (hab : a.length = b.length) (hl : a.length ≤ 64) (ha : ∀ x ∈ a, -1000000000 ≤ x ∧ x ≤ 1000000000) (hb : ∀ x ∈ b, -1000000000 ≤ x ∧ x ≤ 1000000000) (d : Nat) :
    ∀ (i k : Nat) (hi lo : Int), a.length - i = d → i ≤ a.length → -1000000001 * i ≤ hi → hi ≤ 1000000001 * i → -1000000000 * i ≤ lo → lo ≤ 1000000000 * i → d < k →
    ∃ n, schismaref05_Dot.l0 k a b i hi lo = some (n, fitB (hi * 1000000000 + lo + dotp ((a.drop i).zip (b.drop i)))) ∧ (fitB (hi * 1000000000 + lo + dotp ((a.drop i).zip (b.drop i))) = true → n = hi * 1000000000 + lo + dotp ((a.drop i).zip (b.drop i))) := by
  induction d with
  | zero =>
    intro i k hi lo hd hi' h1 h2 h3 h4 hk
    obtain ⟨k, rfl⟩ := pred hk
    simp only [schismaref05_Dot.l0]
    rw [if_neg (by omega), List.drop_eq_nil_of_le (by omega : a.length ≤ i)]
    obtain ⟨n, hn, hf⟩ := refValue (hi := hi) (lo := lo) (by omega) (by omega) (by omega) (by omega)
    rw [hn]
    simp only [List.zip_nil_left, dotp, List.foldl_nil, Int.add_zero, Option.bind_some]
    exact ⟨n, rfl, hf⟩
  | succ d ih =>
    intro i k hi lo hd hi' h1 h2 h3 h4 hk
    obtain ⟨k, rfl⟩ := pred hk
    have hlt : i < a.length := by omega
    simp only [schismaref05_Dot.l0]
    rw [if_pos (by omega), if_pos (by omega), if_pos (by omega), drop_rd a i hlt, drop_rd b i (by omega), wr1 hlt (by omega), List.zip_cons_cons, dotp_cons]
    obtain ⟨x, y, he, hs, g1, g2, g3, g4⟩ := refPlus (hi := hi) (lo := lo) (a := rd a i) (b := rd b i) (by omega) (by omega) (by omega) (by omega) (ha _ (rd_mem a i hlt)) (hb _ (rd_mem b i (by omega)))
    rw [he]
    simp only [Option.bind_some]
    have := ih (i + 1) k x y (by omega) (by omega) (by omega) (by omega) (by omega) (by omega) (by omega)
    rw [hs] at this
    rw [← Int.add_assoc]
    exact this
theorem refDot {a b : List Int} (h : bth a b = 0) {k : Nat} (hk : 100 ≤ k) : ∃ n, schismaref05_Dot.f k a b = some (n, fitB (dotp (a.zip b))) ∧ (fitB (dotp (a.zip b)) = true → n = dotp (a.zip b)) := by
  obtain ⟨h0, h1, h2⟩ := bth_ok h
  obtain ⟨k0, b0⟩ := chk_ok h0
  obtain ⟨k1, b1⟩ := chk_ok h1
  have := refDot_l a b h2 k0 b0 b1 a.length 0 k 0 0 (by omega) (by omega) (by omega) (by omega) (by omega) (by omega) (by omega)
  simpa [schismaref05_Dot.f] using this

theorem lawLoop (a b : List Int) (e f g h' m' w : Int) (hl : a.length ≤ 64) (hb : ∀ x ∈ a, -1000000000 ≤ x ∧ x ≤ 1000000000) (d : Nat) : ∀ (i k : Nat) (t m : Int), a.length - i = d → i ≤ a.length → 0 ≤ t → t ≤ 1000000000 * i →
    schismalaw05_RowDots.l0 (k + d) a b e f g h' m' w t m i = schismalaw05_RowDots.l0 k a b e f g h' m' w (t + sumA (a.drop i)) (maxA m (a.drop i)) (a.length : Int) := by
  induction d with
  | zero =>
    intro i k t m hd hi h0 h1
    obtain rfl : i = a.length := by omega
    simp [sumA, maxA]
  | succ d ih =>
    intro i k t m hd hi h0 h1
    have hlt : i < a.length := by omega
    have hx := hb _ (rd_mem a i hlt)
    have ha := absI_b hx
    rw [show k + (d + 1) = (k + d) + 1 from rfl]
    simp only [schismalaw05_RowDots.l0]
    rw [if_pos (by omega), if_pos (by omega), refAbs hx]
    simp only [Option.bind_some]
    rw [drop_rd a i hlt, wr1 hlt (by omega)]
    simp only [sumA, maxA]
    rw [show wrap64 (t + absI (rd a i)) = t + absI (rd a i) from by unfold wrap64; omega, ih (i + 1) k (t + absI (rd a i)) _ (by omega) (by omega) (by omega) (by omega), Int.add_assoc]

theorem RowDots : schismalaw05_RowDots.Pure := by
  intro a b _ _ _ _ _ _
  refine ⟨1000, ?_⟩
  unfold schismalaw05_RowDots.f
  rw [known_any (by omega)]
  simp only [Option.bind_some, if_true]
  by_cases ha : (a.length : Int) > 80
  · rw [if_pos ha]
    simp only [schismalaw05_RowDots.j0, if_true]
    rw [known_any (by omega)]
    rfl
  · rw [if_neg ha]
    by_cases hb : (b.length : Int) > 80
    · rw [decide_eq_true hb]
      simp only [schismalaw05_RowDots.j0, if_true]
      rw [known_any (by omega)]
      rfl
    · rw [decide_eq_false hb]
      simp only [schismalaw05_RowDots.j0]
      rw [rowSum a (by omega), rowMax a (by omega), refCheck a (by omega)]
      by_cases hc : chk a = 0
      · obtain ⟨hl, hbd⟩ := chk_ok hc
        have hs := sumA_b a hbd
        simp only [hc, row_Dot.f, Option.bind_some, if_true, Bool.false_eq_true, if_false]
        rw [show (999 : Nat) = (999 - a.length) + a.length from by omega]
        rw [show (0 : Int) = ((0 : Nat) : Int) from rfl, lawLoop a b _ _ _ _ _ _ hl hbd a.length 0 (999 - a.length) _ _ (by omega) (by omega) (by omega) (by omega)]
        obtain ⟨k, hk⟩ : ∃ k, 999 - a.length = k + 5 := ⟨994 - a.length, by omega⟩
        rw [hk, List.drop_zero]
        simp only [schismalaw05_RowDots.l0]
        rw [if_neg (by omega)]
        simp only [Int.cast_ofNat_Int, if_true, bne_self_eq_false, Int.zero_add]
        simp only [schismalaw05_RowDots.j2, Bool.false_eq_true, if_false]
        have key : ∀ (want : Int), want = bth a b → schismalaw05_RowDots.j5 (k + 1) a b (if bth a b = 0 then if fitB (dotp (a.zip b)) = true then (dotp (a.zip b), 0) else (0, 4) else (0, bth a b)).1 (if bth a b = 0 then if fitB (dotp (a.zip b)) = true then (dotp (a.zip b), 0) else (0, 4) else (0, bth a b)).2 want = some true := by
          intro want hw
          subst hw
          simp only [schismalaw05_RowDots.j5]
          by_cases h0 : bth a b = 0
          · rw [if_pos h0, if_pos h0]
            obtain ⟨n, hn, hf⟩ := refDot h0 (k := k) (by omega)
            rw [hn]
            simp only [Option.bind_some]
            cases hfb : fitB (dotp (a.zip b)) with
            | true =>
              rw [hf hfb]
              simp
            | false => simp
          · rw [if_neg h0, if_neg h0]
            simp
        have tail : ∀ p q : Int, p = (if bth a b = 0 then if fitB (dotp (a.zip b)) = true then (dotp (a.zip b), 0) else (0, 4) else (0, bth a b)).1 → q = (if bth a b = 0 then if fitB (dotp (a.zip b)) = true then (dotp (a.zip b), 0) else (0, 4) else (0, bth a b)).2 → schismalaw05_RowDots.j3 (k + 3) a b p q = some true := by
          rintro p q rfl rfl
          simp only [schismalaw05_RowDots.j3]
          rw [refCheck b (by omega)]
          simp only [Option.bind_some]
          by_cases h1 : chk b = 0
          · rw [if_pos h1]
            simp only [schismalaw05_RowDots.j4]
            by_cases h2 : a.length = b.length
            · rw [show ((a.length : Int) != (b.length : Int)) = false from by simp [h2], if_neg (by decide)]
              exact key _ (by unfold bth; rw [if_pos hc, if_pos h1, if_pos h2, h1])
            · rw [show ((a.length : Int) != (b.length : Int)) = true from by simp; omega, if_pos rfl]
              exact key _ (by unfold bth; rw [if_pos hc, if_pos h1, if_neg h2])
          · rw [if_neg h1]
            simp only [schismalaw05_RowDots.j4]
            rw [if_neg (by decide)]
            exact key _ (by unfold bth; rw [if_pos hc, if_neg h1])
        by_cases hf : sumA a > 1000000000
        · rw [if_pos hf, show sumR (sumA a) = (0, 4) from by unfold sumR; rw [fitB_hi hf]; rfl]
          simp only [Bool.false_eq_true, if_false, if_true]
          exact tail _ _ rfl rfl
        · rw [if_neg hf, show sumR (sumA a) = (sumA a, 0) from by unfold sumR; rw [fitB_true (by omega) (by omega)]; rfl]
          simp only [if_true]
          exact tail _ _ rfl rfl
      · have hd : bth a b = chk a := by unfold bth; rw [if_neg hc]
        simp only [hc, row_Dot.f, Option.bind_some, if_false, hd, Bool.false_eq_true]
        simp
end Go.Proofs.YtpbbekbdpodedaaDoor.Pure
