import Derived.Test.YtpbbekbdpodedaaDoorPL2
import Derived.Test.YtpbbekbdpodedaaDoorPR8
namespace Go.Proofs.YtpbbekbdpodedaaDoor.PL
open Go.RowKit Go.Proofs.YtpbbekbdpodedaaDoor Go.Proofs.YtpbbekbdpodedaaDoor.PR Go.Proofs.YtpbbekbdpodedaaDoorW.PrintWords Go.Proofs.YtpbbekbdpodedaaDoorW.PrintLast H
set_option linter.unusedVariables false
set_option linter.unusedSimpArgs false

def cs (T : Int) (x : Option (List Int × Bool)) : Option (List Int × Bool) := if fitB T = true then x else some ([], false)
theorem refComb_inner {n : Nat} {rows : List (List Int)} {fs : List Int} (ok : RowsOK n rows fs) (c : Nat) (hc : c < n) (out : List Int) (ho : out.length ≤ c) (d : Nat) :
    ∀ (i k : Nat) (hi lo : Int), rows.length - i = d → i ≤ rows.length → -1000000001 * i ≤ hi → hi ≤ 1000000001 * i → -1000000000 * i ≤ lo → lo ≤ 1000000000 * i →
    schismaref05_Combine.l1 (k + d + 1) rows fs out c i hi lo = cs (hi * 1000000000 + lo + csum c (rows.drop i) (fs.drop i)) (schismaref05_Combine.l0 k rows fs (out ++ [hi * 1000000000 + lo + csum c (rows.drop i) (fs.drop i)]) ((c + 1 : Nat) : Int)) := by
  have hf := ok.few
  have hs := ok.short
  induction d with
  | zero =>
    intro i k hi lo hd hi' h1 h2 h3 h4
    simp only [schismaref05_Combine.l1]
    rw [if_neg (by omega), List.drop_eq_nil_of_le (by omega : rows.length ≤ i)]
    obtain ⟨m, hm, hv⟩ := refValue (hi := hi) (lo := lo) (by omega) (by omega) (by omega) (by omega)
    rw [hm]
    simp only [csum, Int.add_zero, Option.bind_some]
    unfold cs
    by_cases h : fitB (hi * 1000000000 + lo) = true
    · rw [if_pos h, if_pos h, if_pos (by omega), hv h, wr1 hc (by omega)]
    · rw [if_neg h, if_neg h]
  | succ d ih =>
    intro i k hi lo hd hi' h1 h2 h3 h4
    have hlt : i < rows.length := by omega
    have hmem := rdL_mem rows i hlt
    have hlen := ok.len _ hmem
    have hsame := ok.same
    obtain ⟨m, hm⟩ : ∃ m, m = k + d + 1 := ⟨_, rfl⟩
    rw [show k + (d + 1) + 1 = m + 1 from by omega]
    simp only [schismaref05_Combine.l1]
    rw [if_pos (by omega), if_pos (by omega), if_pos (by omega), if_pos (by rw [hlen]; omega), if_pos (by omega), drop_rdL rows i hlt, drop_rd fs i (by omega), wr1 hlt (by omega)]
    obtain ⟨x, y, he, hs', g1, g2, g3, g4⟩ := refPlus (hi := hi) (lo := lo) (a := rd (rd_L2 rows i) c) (b := rd fs i) (by omega) (by omega) (by omega) (by omega) (ok.els _ hmem _ (rd_mem _ c (by omega))) (ok.fac _ (rd_mem fs i (by omega)))
    rw [he]
    simp only [Option.bind_some, csum]
    rw [hm, ih (i + 1) k x y (by omega) (by omega) (by omega) (by omega) (by omega) (by omega), hs', Int.add_assoc]
def cols (rows : List (List Int)) (fs : List Int) : Nat → Nat → List Int
  | _, 0 => []
  | c, d + 1 => csum c rows fs :: cols rows fs (c + 1) d
def combR (out : List Int) (l : List Int) : List Int × Bool := if l.all fitB = true then (out ++ l, true) else ([], false)
theorem combR_cons (out : List Int) (x : Int) (l : List Int) : some (combR out (x :: l)) = cs x (some (combR (out ++ [x]) l)) := by
  unfold combR cs
  rw [List.all_cons]
  cases fitB x <;> simp
theorem refComb_outer {n : Nat} {rows : List (List Int)} {fs : List Int} (ok : RowsOK n rows fs) (h0 : 0 < rows.length) (d : Nat) :
    ∀ (c k : Nat) (out : List Int), n - c = d → c ≤ n → out.length ≤ c → d * (rows.length + 2) + 1 ≤ k → schismaref05_Combine.l0 k rows fs out c = some (combR out (cols rows fs c d)) := by
  have hl0 : (rd_L2 rows 0).length = n := ok.len _ (rdL_mem rows 0 h0)
  induction d with
  | zero =>
    intro c k out hd hc ho hk
    obtain ⟨k, rfl⟩ := pred (show 0 < k by omega)
    simp only [schismaref05_Combine.l0]
    rw [if_pos (by omega), if_neg (by rw [hl0]; omega)]
    simp [combR, cols]
  | succ d ih =>
    intro c k out hd hc ho hk
    rw [Nat.succ_mul] at hk
    obtain ⟨k, rfl⟩ : ∃ m, k = (m + rows.length + 1) + 1 := ⟨k - (rows.length + 2), by omega⟩
    simp only [schismaref05_Combine.l0]
    rw [if_pos (by omega), if_pos (by rw [hl0]; omega)]
    have := refComb_inner ok c (by omega) out ho rows.length 0 k 0 0 (by omega) (by omega) (by omega) (by omega) (by omega) (by omega)
    simp only [Int.cast_ofNat_Int, List.drop_zero, Int.zero_mul, Int.zero_add, Int.add_zero] at this
    rw [this, ih (c + 1) k _ (by omega) (by omega) (by simp; omega) (by omega), ← combR_cons]
    rfl
theorem refCombine {n : Nat} {rows : List (List Int)} {fs : List Int} (ok : RowsOK n rows fs) (h0 : 0 < rows.length) {k : Nat} (hk : n * (rows.length + 2) + 1 ≤ k) : schismaref05_Combine.f k rows fs = some (combR [] (cols rows fs 0 n)) := by
  have := refComb_outer ok h0 n 0 k [] (by omega) (by omega) (by simp) hk
  simpa [schismaref05_Combine.f] using this

theorem cols_one (l : List Int) (f : Int) (d : Nat) : ∀ c, l.length - c = d → c ≤ l.length → cols [l] [f] c d = (l.drop c).map (fun x => x * f) := by
  induction d with
  | zero =>
    intro c hd hc
    rw [List.drop_eq_nil_of_le (by omega)]
    rfl
  | succ d ih =>
    intro c hd hc
    rw [drop_rd l c (by omega), cols, ih (c + 1) (by omega) (by omega)]
    simp [csum]
theorem cols_two (a b : List Int) (f g : Int) (hab : a.length = b.length) (d : Nat) : ∀ c, a.length - c = d → c ≤ a.length → cols [a, b] [f, g] c d = ((a.drop c).zip (b.drop c)).map (fun x => x.1 * f + x.2 * g) := by
  induction d with
  | zero =>
    intro c hd hc
    rw [List.drop_eq_nil_of_le (by omega : a.length ≤ c)]
    rfl
  | succ d ih =>
    intro c hd hc
    rw [drop_rd a c (by omega), drop_rd b c (by omega), cols, ih (c + 1) (by omega) (by omega)]
    simp [csum]

theorem all_chk {l : List Int} (h : l.length ≤ 64) : chk l = if l.all fitB = true then 0 else 4 := by
  unfold chk
  by_cases h2 : l.all fitB = true
  · rw [if_pos ⟨h, h2⟩, if_pos h2]
  · rw [if_neg (fun h' => h2 h'.2), if_neg h2]
theorem chk_fits {l : List Int} (h : chk l = 0) : ∀ x ∈ l, -1000000000 ≤ x ∧ x ≤ 1000000000 := (chk_ok h).2
theorem result_eq (l : List Int) : row_result.f l = some (okR l, chk l) := by
  unfold row_result.f row_Check.f okR
  simp only [Option.bind_some]
  by_cases h : chk l = 0
  · rw [if_pos h, if_pos h, h]
  · rw [if_neg h, if_neg h]
theorem rowScale_l (a : Int) (l : List Int) (hl : l.length ≤ 64) (d : Nat) : ∀ (i k : Nat) (out : List Int), l.length - i = d → i ≤ l.length → out.length ≤ i → d < k →
    row_Scale.l0 k a out l (l.length : Int) i = some (okR (out ++ (l.drop i).map fun x => wrap64 (a * x)), chk (out ++ (l.drop i).map fun x => wrap64 (a * x))) := by
  induction d with
  | zero =>
    intro i k out hd hi ho hk
    obtain ⟨k, rfl⟩ := pred hk
    simp only [row_Scale.l0]
    rw [if_neg (by omega), List.drop_eq_nil_of_le (by omega), result_eq]
    simp
  | succ d ih =>
    intro i k out hd hi ho hk
    obtain ⟨k, rfl⟩ := pred hk
    have hlt : i < l.length := by omega
    simp only [row_Scale.l0]
    rw [if_pos (by omega), if_pos (by omega), if_pos (by omega), if_pos (by omega), drop_rd l i hlt, wr1 hlt (by omega), ih (i + 1) k _ (by omega) (by omega) (by simp; omega) (by omega)]
    simp
/-- What Scale returns. -/
def scaleR (l : List Int) (a : Int) : List Int × Int :=
  if chk l = 0 then (if fitB a = true then (okR (l.map fun x => wrap64 (a * x)), chk (l.map fun x => wrap64 (a * x))) else if zro l = true then (List.replicate l.length 0, 0) else ([], 4)) else ([], chk l)
theorem rowFits' (x : Int) : row_fits.f x = some (fitB x) := by
  unfold row_fits.f
  by_cases h1 : x ≥ -1000000000
  · rw [if_pos h1]
    by_cases h2 : x ≤ 1000000000
    · rw [decide_eq_true h2, fitB_true h1 h2]
    · rw [decide_eq_false h2, fitB_hi (by omega)]
  · rw [if_neg h1, fitB_lo (by omega)]
theorem rowScale (l : List Int) (a : Int) {k : Nat} (hk : 100 ≤ k) : row_Scale.f k l a = some (scaleR l a) := by
  unfold row_Scale.f row_Check.f scaleR
  simp only [Option.bind_some]
  by_cases h : chk l = 0
  · rw [if_pos h, if_pos h, rowFits']
    have hl := (chk_ok h).1
    simp only [Option.bind_some]
    by_cases h2 : fitB a = true
    · rw [if_pos h2, if_pos h2, if_pos (by omega), if_pos (by rw [Int.toNat_natCast]; omega)]
      have := rowScale_l a l hl l.length 0 k [] (by omega) (by omega) (by simp) (by omega)
      simpa using this
    · rw [if_neg h2, if_neg h2]
      unfold row_IsZero.f
      simp only [Option.bind_some]
      by_cases h3 : zro l = true
      · rw [if_pos h3, if_pos h3, if_pos (by omega), if_pos (by rw [Int.toNat_natCast]; omega), Int.toNat_natCast]
      · rw [if_neg h3, if_neg h3]
  · rw [if_neg h, if_neg h]
/-- The reference's Scale. -/
def scaleT (l : List Int) (a : Int) : List Int × Bool := if zro l = true then (l, true) else if fitB a = true then combR [] (l.map fun x => x * a) else ([], false)
theorem refScale {l : List Int} (h : chk l = 0) (a : Int) {k : Nat} (hk : 1000 ≤ k) : schismaref05_Scale.f k l a = some (scaleT l a) := by
  obtain ⟨hl, hb⟩ := chk_ok h
  unfold schismaref05_Scale.f scaleT
  rw [refIsZero l (by omega) (by omega)]
  simp only [Option.bind_some]
  by_cases h1 : zro l = true
  · rw [if_pos h1, if_pos h1, if_pos (by simp; omega)]
    rfl
  · rw [if_neg h1, if_neg h1]
    by_cases h2 : a > 1000000000
    · rw [if_pos h2, fitB_hi h2]
      rfl
    · rw [if_neg h2]
      by_cases h3 : a < -1000000000
      · rw [if_pos h3, fitB_lo h3]
        rfl
      · rw [if_neg h3, fitB_true (by omega) (by omega), if_pos rfl]
        have ok : RowsOK l.length [l] [a] := ⟨by simp, by simpa using hb, by simp; omega, rfl, by simp, by omega⟩
        rw [refCombine ok (by simp) (by simp; omega), cols_one l a l.length 0 (by omega) (by omega)]
        simp
end Go.Proofs.YtpbbekbdpodedaaDoor.PL
