import Derived.Deep.Matrix
import Derived.Test.YtpbbekbdpodedaaDoorPRM
import Derived.Test.YtpbbekbdpodedaaDoorPL3
namespace Go.Proofs.YtpbbekbdpodedaaDoor.Pure
open Go.RowKit Go.Proofs.YtpbbekbdpodedaaDoor Go.Proofs.YtpbbekbdpodedaaDoor.PR Go.Proofs.YtpbbekbdpodedaaDoor.PL Go.Proofs.YtpbbekbdpodedaaDoorW.PrintWords Go.Proofs.YtpbbekbdpodedaaDoorW.PrintLast Go.Proofs.YtpbbekbdpodedaaDoorW.PrintMore H
set_option linter.unusedVariables false
set_option linter.unusedSimpArgs false

/-- What CheckAll says of one row. -/
def one (n : Int) (l : List Int) : Int := if chk l = 0 then (if (l.length : Int) = n then 0 else 5) else chk l
theorem all_step (xs : List (List Int)) (hx : xs.length ≤ 10) (n : Int) (i : Nat) (l : List Int) (hi : i < xs.length) (hl : rd_L2 xs (i : Int) = l) {k : Nat} :
    row_CheckAll.l0 (k + 1) n xs (xs.length : Int) (i : Int) = if one n l = 0 then row_CheckAll.l0 k n xs (xs.length : Int) ((i + 1 : Nat) : Int) else some (one n l) := by
  simp only [row_CheckAll.l0]
  rw [if_pos (by omega), if_pos (by omega), if_pos (by omega), hl]
  unfold row_Check.f one
  rw [Option.bind_some]
  have hw : wrap64 ((i : Int) + 1) = ((i + 1 : Nat) : Int) := by unfold wrap64; omega
  by_cases h1 : chk l = 0
  · rw [if_pos h1, if_pos h1]
    by_cases h2 : (l.length : Int) = n
    · rw [if_pos h2, if_pos h2, if_pos rfl, hw]
    · rw [if_neg h2, if_neg h2, if_neg (by decide)]
  · rw [if_neg h1, if_neg h1, if_neg h1]
/-- The first error of rows. -/
def firstE (n : Int) : List (List Int) → Int
  | [] => 0
  | r :: rs => if one n r = 0 then firstE n rs else one n r
theorem all_l (xs : List (List Int)) (hx : xs.length ≤ 10) (n : Int) (d : Nat) : ∀ (i k : Nat), xs.length - i = d → i ≤ xs.length → d < k → row_CheckAll.l0 k n xs (xs.length : Int) (i : Int) = some (firstE n (xs.drop i)) := by
  induction d with
  | zero =>
    intro i k hd hi hk
    obtain ⟨k, rfl⟩ := pred hk
    simp only [row_CheckAll.l0]
    rw [if_neg (by omega), List.drop_eq_nil_of_le (by omega)]
    rfl
  | succ d ih =>
    intro i k hd hi hk
    obtain ⟨k, rfl⟩ := pred hk
    have hlt : i < xs.length := by omega
    rw [all_step xs hx n i _ hlt rfl, drop_rdL xs i hlt, ih (i + 1) k (by omega) (by omega) (by omega)]
    show _ = some (if one n (rd_L2 xs (i : Int)) = 0 then firstE n (xs.drop (i + 1)) else one n (rd_L2 xs (i : Int)))
    split <;> rfl
theorem all_eq (xs : List (List Int)) (hx : xs.length ≤ 10) (n : Int) {k : Nat} (hk : 20 ≤ k) : row_CheckAll.f k xs n = some (firstE n xs) := by
  have := all_l xs hx n xs.length 0 k (by omega) (by omega) (by omega)
  simpa [row_CheckAll.f] using this

/-! ### the sum of a column -/
def colp (c : Int) : List (List Int) → List Int → List (Int × Int)
  | r :: rs, f :: fs => (rd r c, f) :: colp c rs fs
  | _, _ => []
theorem colp_dot (c : Int) : ∀ (rs : List (List Int)) (fs : List Int), dotp (colp c rs fs) = csum c rs fs
  | [], fs => by
    cases fs <;> rfl
  | r :: rs, [] => rfl
  | r :: rs, f :: fs => by
    have key : ∀ (l : List (Int × Int)) (s : Int), l.foldl (fun s x => s + x.1 * x.2) s = s + l.foldl (fun s x => s + x.1 * x.2) 0 := by
      intro l
      induction l with
      | nil => intro s; simp
      | cons y l ih =>
        intro s
        rw [List.foldl_cons, List.foldl_cons, ih (s + y.1 * y.2), ih (0 + y.1 * y.2)]
        omega
    have := colp_dot c rs fs
    unfold dotp at this ⊢
    unfold colp csum
    rw [List.foldl_cons, key, this]
    simp only
    omega
theorem colp_length (c : Int) : ∀ (rs : List (List Int)) (fs : List Int), (colp c rs fs).length ≤ rs.length
  | [], fs => by cases fs <;> exact Nat.le_refl _
  | r :: rs, [] => Nat.zero_le _
  | r :: rs, f :: fs => by
    have := colp_length c rs fs
    unfold colp
    simp only [List.length_cons]
    omega
theorem colp_mem {n : Nat} {c : Nat} (hc : c < n) : ∀ (rs : List (List Int)) (fs : List Int), (∀ r ∈ rs, r.length = n) → (∀ r ∈ rs, ∀ x ∈ r, -1000000000 ≤ x ∧ x ≤ 1000000000) → (∀ x ∈ fs, -1000000000 ≤ x ∧ x ≤ 1000000000) →
    ∀ x ∈ colp c rs fs, (-1000000000 ≤ x.1 ∧ x.1 ≤ 1000000000) ∧ (-1000000000 ≤ x.2 ∧ x.2 ≤ 1000000000)
  | [], fs, _, _, _ => by
    intro x hx
    cases fs <;> simp [colp] at hx
  | r :: rs, [], _, _, _ => by
    intro x hx
    simp [colp] at hx
  | r :: rs, f :: fs, h1, h2, h3 => by
    intro x hx
    unfold colp at hx
    rcases List.mem_cons.1 hx with rfl | hx
    · have hl := h1 r (List.mem_cons_self ..)
      exact ⟨h2 r (List.mem_cons_self ..) _ (rd_mem r c (by omega)), h3 f (List.mem_cons_self ..)⟩
    · exact colp_mem hc rs fs (fun r hr => h1 r (List.mem_cons_of_mem _ hr)) (fun r hr => h2 r (List.mem_cons_of_mem _ hr)) (fun x hx => h3 x (List.mem_cons_of_mem _ hx)) x hx
/-- What follows a column's loop. -/
def after (k : Nat) (l : List (List Int)) (fs out : List Int) (c n : Int) (s : Int × Int) : Option (List Int × Int) :=
  (row_sum_value.f s.1 s.2).bind fun bt => if bt.2 = true then (if 0 ≤ c then (if c < (out.length : Int) then row_Combine.l0 k l fs (out.set (c : Int).toNat bt.1) n (wrap64 (c + 1)) else none) else none) else some (([] : List Int), 4)
theorem comb_inner (l : List (List Int)) (fs out : List Int) (c : Nat) (n : Int) (N : Nat) (hN : ∀ r ∈ l, r.length = N) (hc : c < N) (hfs : l.length = fs.length) (hl : l.length ≤ 10) (k d : Nat) : ∀ (i : Nat) (s : Int × Int), l.length - i = d → i ≤ l.length →
    row_Combine.l1 (k + d + 1) l fs out c n c l (l.length : Int) i s.1 s.2 = after k l fs out c n ((colp c (l.drop i) (fs.drop i)).foldl stepS s) := by
  induction d with
  | zero =>
    intro i s hd hi
    simp only [row_Combine.l1]
    rw [if_neg (by omega), List.drop_eq_nil_of_le (by omega : l.length ≤ i), List.drop_eq_nil_of_le (by omega : fs.length ≤ i)]
    rfl
  | succ d ih =>
    intro i s hd hi
    have hlt : i < l.length := by omega
    have hr := hN _ (rdL_mem l i hlt)
    rw [show k + (d + 1) + 1 = (k + d + 1) + 1 from by omega]
    have h1 := ih (i + 1) (stepS (s.1, s.2) (rd (rd_L2 l (i : Int)) (c : Int), rd fs (i : Int))) (by omega) (by omega)
    have h2 : colp c (l.drop i) (fs.drop i) = (rd (rd_L2 l (i : Int)) (c : Int), rd fs (i : Int)) :: colp c (l.drop (i + 1)) (fs.drop (i + 1)) := by
      rw [drop_rdL l i hlt, drop_rd fs i (by omega)]
      rfl
    rw [h2, List.foldl_cons]
    generalize k + d + 1 = K at h1 ⊢
    simp only [row_Combine.l1]
    rw [if_pos (by omega), if_pos (by omega), if_pos (by omega), if_pos (by omega), if_pos (by omega), if_pos (by omega)]
    unfold row_sum_add.f
    rw [Option.bind_some, wr1 hlt (by omega)]
    exact h1
def okc (out cs : List Int) : List Int × Int := if cs.all fitB = true then (out ++ cs, 0) else ([], 4)
theorem comb_outer {n : Nat} {rows : List (List Int)} {fs : List Int} (ok : RowsOK n rows fs) (hr : rows.length ≤ 10) (d : Nat) :
    ∀ (c k : Nat) (out : List Int), n - c = d → c ≤ n → out.length = c → d * 20 + 1 ≤ k → row_Combine.l0 k rows fs (out ++ List.replicate d 0) (n : Int) c = some (okc out (cols rows fs c d)) := by
  have hshort := ok.short
  induction d with
  | zero =>
    intro c k out hd hc ho hk
    obtain ⟨k, rfl⟩ := pred (show 0 < k by omega)
    simp only [row_Combine.l0]
    rw [if_neg (by omega)]
    simp [okc, cols]
  | succ d ih =>
    intro c k out hd hc ho hk
    obtain ⟨k, rfl⟩ : ∃ m, k = (m + rows.length + 1) + 1 := ⟨k - rows.length - 2, by omega⟩
    have hcn : c < n := by omega
    have hin := comb_inner rows fs (out ++ List.replicate (d + 1) 0) c n n ok.len hcn ok.same hr k rows.length 0 (0, 0) (by omega) (by omega)
    simp only [row_Combine.l0]
    rw [if_pos (by omega)]
    simp only [Int.natCast_zero, List.drop_zero] at hin
    rw [hin]
    obtain ⟨h1, h2, h3, _⟩ := sums_eq (colp c rows fs) (by have := colp_length c rows fs; omega) (colp_mem hcn rows fs ok.len ok.els ok.fac)
    rw [colp_dot] at h1
    obtain ⟨v1, v2⟩ := val_fits h2 h3
    rw [h1] at v1 v2
    show after k rows fs _ c n (sums (colp c rows fs)) = _
    unfold after row_sum_value.f
    rw [if_pos ⟨h2, h3⟩, Option.bind_some]
    simp only
    unfold cols okc
    rw [List.all_cons, v1]
    by_cases hf : fitB (csum c rows fs) = true
    · rw [if_pos hf, if_pos (by omega), if_pos (by rw [List.length_append, List.length_replicate]; omega), v2 (by rw [v1]; exact hf), Int.toNat_natCast, wr1 hcn (by omega)]
      have hset : (out ++ List.replicate (d + 1) 0).set c (csum c rows fs) = (out ++ [csum c rows fs]) ++ List.replicate d 0 := by
        rw [List.set_append_right _ _ (by omega), ho, Nat.sub_self, List.replicate_succ, List.set_cons_zero]
        simp
      rw [hset, ih (c + 1) k _ (by omega) (by omega) (by simp; omega) (by omega), hf]
      unfold okc
      simp
    · rw [if_neg hf]
      have : fitB (csum c rows fs) = false := by simpa using hf
      rw [this]
      simp
/-- Combine of rows, whatever they are. -/
theorem comb_eq (l : List (List Int)) (fs : List Int) (hl : l.length ≤ 10) (h0 : 0 < l.length) {k : Nat} (hk : 2000 ≤ k) :
    row_Combine.f k l fs = some (if firstE ((rd_L2 l 0).length : Int) l = 0 then (if chk fs = 0 then (if l.length = fs.length then okc [] (cols l fs 0 (rd_L2 l 0).length) else ([], 5)) else ([], chk fs)) else ([], firstE ((rd_L2 l 0).length : Int) l)) := by
  have hone : firstE ((rd_L2 l 0).length : Int) l = 0 → ∀ r ∈ l, one ((rd_L2 l 0).length : Int) r = 0 := by
    generalize ((rd_L2 l 0).length : Int) = n
    clear hl h0
    induction l with
    | nil => intro _ r hr; cases hr
    | cons x l ih =>
      intro h r hr
      unfold firstE at h
      by_cases hx : one n x = 0
      · rw [if_pos hx] at h
        rcases List.mem_cons.1 hr with rfl | hr
        · exact hx
        · exact ih h r hr
      · rw [if_neg hx] at h
        exact absurd h hx
  unfold row_Combine.f
  rw [if_neg (by omega), if_pos (by omega), all_eq l hl _ (by omega), Option.bind_some]
  by_cases h1 : firstE ((rd_L2 l 0).length : Int) l = 0
  · rw [if_pos h1, if_pos h1]
    unfold row_Check.f
    rw [Option.bind_some]
    by_cases h2 : chk fs = 0
    · rw [if_pos h2, if_pos h2]
      by_cases h3 : l.length = fs.length
      · have ho := hone h1
        have hlen : ∀ r ∈ l, r.length = (rd_L2 l 0).length := by
          intro r hr
          have := ho r hr
          unfold one at this
          by_cases hc : chk r = 0
          · rw [if_pos hc] at this
            by_cases hq : (r.length : Int) = ((rd_L2 l 0).length : Int)
            · omega
            · rw [if_neg hq] at this
              cases this
          · rw [if_neg hc] at this
            exact absurd this hc
        have hchk : ∀ r ∈ l, chk r = 0 := by
          intro r hr
          have := ho r hr
          unfold one at this
          by_cases hc : chk r = 0
          · exact hc
          · rw [if_neg hc] at this
            exact absurd this hc
        have hn : (rd_L2 l 0).length ≤ 64 := (chk_ok (hchk _ (rdL_mem l 0 h0))).1
        have ok : RowsOK (rd_L2 l 0).length l fs := ⟨hlen, fun r hr => (chk_ok (hchk r hr)).2, (chk_ok h2).2, h3, by omega, by omega⟩
        have := comb_outer ok hl (rd_L2 l 0).length 0 k [] (by omega) (by omega) rfl (by omega)
        rw [if_pos (by omega), if_pos (by omega), if_pos (by omega), if_pos h3, Int.toNat_natCast, Option.bind_some, List.length_replicate]
        simpa using this
      · rw [if_neg (by omega), if_neg h3]
    · rw [if_neg h2, if_neg h2]
  · rw [if_neg h1, if_neg h1]

/-! ### the law -/
theorem same_eq (got : List Int) (e : Int) (want : List Int) (ok : Bool) (h1 : got.length ≤ 100) (h2 : want.length ≤ 100) {k : Nat} (hk : 300 ≤ k) (h : if ok = true then e = 0 ∧ got = want else got = [] ∧ e = 4) :
    schismalaw05_same.f k got e want ok = some true := by
  unfold schismalaw05_same.f
  cases ok with
  | true =>
    rw [if_pos rfl] at h ⊢
    rw [if_pos h.1, refEqual got want (by omega) (by omega) (by omega), decide_eq_true h.2]
    rfl
  | false =>
    rw [if_neg (by decide)] at h ⊢
    rw [if_pos (by rw [h.1]; rfl), h.2]
    rfl
/-- A row out of right elements, checked: as the reference's Combine tells it. -/
theorem firstE_ok {n : Nat} : ∀ {l : List (List Int)}, firstE (n : Int) l = 0 → ∀ r ∈ l, chk r = 0 ∧ r.length = n
  | [], _ => fun r hr => by cases hr
  | x :: l, h => by
    unfold firstE at h
    by_cases hx : one (n : Int) x = 0
    · rw [if_pos hx] at h
      intro r hr
      rcases List.mem_cons.1 hr with rfl | hr
      · unfold one at hx
        by_cases hc : chk r = 0
        · rw [if_pos hc] at hx
          by_cases hq : (r.length : Int) = (n : Int)
          · exact ⟨hc, by omega⟩
          · rw [if_neg hq] at hx
            cases hx
        · rw [if_neg hc] at hx
          exact absurd hx hc
      · exact firstE_ok h r hr
    · rw [if_neg hx] at h
      exact absurd h hx
/-- What Combine returns of rows. -/
def combV (l : List (List Int)) (fs : List Int) : List Int × Int :=
  if firstE ((rd_L2 l 0).length : Int) l = 0 then (if chk fs = 0 then (if l.length = fs.length then okc [] (cols l fs 0 (rd_L2 l 0).length) else ([], 5)) else ([], chk fs)) else ([], firstE ((rd_L2 l 0).length : Int) l)
theorem err_j4 {l : List (List Int)} {fs x : List Int} {e w : Int} (hw : w ≠ 0) (h : (x, e) = (([] : List Int), w)) {k : Nat} : schismalaw05_RowCombines.j4 (k + 1) l fs x e w = some true := by
  cases h
  simp only [schismalaw05_RowCombines.j4]
  rw [if_neg hw, if_pos (by simp), beq_self_eq_true]
theorem chk_ne {l : List Int} (h : ¬ chk l = 0) : chk l = 4 := by
  rcases chk_cases l with h1 | h1
  · exact absurd h1 h
  · exact h1
theorem cols_length (rows : List (List Int)) (fs : List Int) (d : Nat) : ∀ c, (cols rows fs c d).length = d := by
  induction d with
  | zero => intro c; rfl
  | succ d ih => intro c; unfold cols; rw [List.length_cons, ih]
theorem law_end (l : List (List Int)) (fs x : List Int) (e : Int) (hl : l.length ≤ 6) (h0 : 0 < l.length) (hx : (x, e) = combV l fs) (hf : firstE ((rd_L2 l 0).length : Int) l = 0) {k : Nat} (hk : 3000 ≤ k) :
    schismalaw05_RowCombines.l0 (k + 1 + 1 + 1) l fs x e (l.length : Int) = some true := by
  unfold combV at hx
  rw [if_pos hf] at hx
  simp only [schismalaw05_RowCombines.l0]
  rw [if_neg (by omega), refCheck fs (by omega), Option.bind_some]
  by_cases h2 : chk fs = 0
  · rw [if_pos h2] at hx ⊢
    by_cases h3 : l.length = fs.length
    · rw [if_pos h3] at hx
      have e2 : ((fs.length : Int) != (l.length : Int)) = false := by simp [h3]
      rw [e2]
      simp only [schismalaw05_RowCombines.j3, Bool.false_eq_true, if_false]
      have hok := firstE_ok hf
      have hn : (rd_L2 l 0).length ≤ 64 := (chk_ok (hok _ (rdL_mem l 0 h0)).1).1
      have ok : RowsOK (rd_L2 l 0).length l fs := ⟨fun r hr => (hok r hr).2, fun r hr => (chk_ok (hok r hr).1).2, (chk_ok h2).2, h3, by omega, by omega⟩
      have hnk : (rd_L2 l 0).length * (l.length + 2) + 1 ≤ k := by
        have : (rd_L2 l 0).length * (l.length + 2) ≤ 64 * 8 := Nat.mul_le_mul hn (by omega)
        omega
      have hc := refCombine ok h0 hnk
      rw [h2]
      simp only [schismalaw05_RowCombines.j4]
      rw [if_pos trivial, hc, Option.bind_some]
      have hL := cols_length l fs (rd_L2 l 0).length 0
      generalize cols l fs 0 (rd_L2 l 0).length = L at hx hL ⊢
      unfold okc at hx
      unfold combR
      by_cases ha : L.all fitB = true
      · rw [if_pos ha] at hx ⊢
        cases hx
        rw [same_eq _ _ _ _ (by simp; omega) (by simp; omega) (by omega) (by simp)]
        rfl
      · rw [if_neg ha] at hx ⊢
        cases hx
        rw [same_eq _ _ _ _ (by simp) (by simp) (by omega) (by simp)]
        rfl
    · rw [if_neg h3] at hx
      have e2 : ((fs.length : Int) != (l.length : Int)) = true := by simp; omega
      rw [e2]
      simp only [schismalaw05_RowCombines.j3, if_true]
      exact err_j4 (by decide) hx
  · rw [if_neg h2] at hx ⊢
    simp only [schismalaw05_RowCombines.j3, Bool.false_eq_true, if_false]
    exact err_j4 h2 hx
theorem law_loop (l : List (List Int)) (fs x : List Int) (e : Int) (hl : l.length ≤ 6) (h0 : 0 < l.length) (hx : (x, e) = combV l fs) (d : Nat) :
    ∀ (i k : Nat), l.length - i = d → i ≤ l.length → firstE ((rd_L2 l 0).length : Int) l = firstE ((rd_L2 l 0).length : Int) (l.drop i) → 4000 + 10 * d ≤ k → schismalaw05_RowCombines.l0 k l fs x e i = some true := by
  induction d with
  | zero =>
    intro i k hd hi hf hk
    obtain ⟨k, rfl⟩ : ∃ m, k = m + 1 + 1 + 1 := ⟨k - 3, by omega⟩
    obtain rfl : i = l.length := by omega
    rw [List.drop_length] at hf
    exact law_end l fs x e hl h0 hx hf (by omega)
  | succ d ih =>
    intro i k hd hi hf hk
    obtain ⟨k, rfl⟩ : ∃ m, k = m + 1 + 1 := ⟨k - 2, by omega⟩
    have hlt : i < l.length := by omega
    have hfd : firstE ((rd_L2 l 0).length : Int) (l.drop i) = if one ((rd_L2 l 0).length : Int) (rd_L2 l (i : Int)) = 0 then firstE ((rd_L2 l 0).length : Int) (l.drop (i + 1)) else one ((rd_L2 l 0).length : Int) (rd_L2 l (i : Int)) := by
      rw [drop_rdL l i hlt]
      rfl
    rw [hfd] at hf
    have hnext := ih (i + 1) k (by omega) (by omega)
    have hbad : ∀ w : Int, w ≠ 0 → firstE ((rd_L2 l 0).length : Int) l = w → x = [] ∧ e = w := by
      intro w hw hq
      unfold combV at hx
      rw [hq, if_neg hw] at hx
      cases hx
      exact ⟨rfl, rfl⟩
    rw [show (k + 1 + 1) = (k + 1) + 1 from rfl]
    simp only [schismalaw05_RowCombines.l0]
    rw [if_pos (by omega), if_pos (by omega)]
    generalize rd_L2 l (i : Int) = r at hf ⊢
    by_cases h10 : (r.length : Int) > 10
    · rw [if_pos h10]
    · rw [if_neg h10, refCheck r (by omega), Option.bind_some]
      by_cases hc : chk r = 0
      · rw [if_pos hc, if_pos (by omega)]
        by_cases hq : (r.length : Int) = ((rd_L2 l 0).length : Int)
        · have e1 : ((r.length : Int) != ((rd_L2 l 0).length : Int)) = false := by simp [hq]
          have e2 : one ((rd_L2 l 0).length : Int) r = 0 := by unfold one; rw [if_pos hc, if_pos hq]
          rw [e2, if_pos rfl] at hf
          rw [e1, hc]
          simp only [schismalaw05_RowCombines.j2, Bool.false_eq_true, if_false, if_true]
          rw [wr1 hlt (by omega)]
          exact hnext hf (by omega)
        · have e1 : ((r.length : Int) != ((rd_L2 l 0).length : Int)) = true := by simp only [bne_iff_ne]; exact hq
          have e2 : one ((rd_L2 l 0).length : Int) r = 5 := by unfold one; rw [if_pos hc, if_neg hq]
          rw [e2, if_neg (by decide)] at hf
          obtain ⟨b1, b2⟩ := hbad 5 (by decide) hf
          rw [e1, b1, b2]
          simp only [schismalaw05_RowCombines.j2, if_true]
          rw [if_neg (by decide), if_pos (by simp)]
          rfl
      · have e2 : one ((rd_L2 l 0).length : Int) r = chk r := by unfold one; rw [if_neg hc]
        rw [e2, if_neg hc] at hf
        obtain ⟨b1, b2⟩ := hbad (chk r) hc hf
        rw [if_neg hc, b1, b2]
        simp only [schismalaw05_RowCombines.j2, Bool.false_eq_true, if_false]
        rw [if_neg hc, if_pos (by simp), beq_self_eq_true]
theorem RowCombines : schismalaw05_RowCombines.Pure := by
  intro l fs
  obtain ⟨K, hK⟩ : ∃ K : Nat, 5000 ≤ K := ⟨5000, Nat.le_refl _⟩
  refine ⟨K + 1, ?_⟩
  have bad : schismalaw05_RowCombines.j0 (K + 1) l fs true = some true := by
    simp only [schismalaw05_RowCombines.j0, if_true]
    rw [known_any (by omega)]
    rfl
  unfold schismalaw05_RowCombines.f
  rw [known_any (by omega), Option.bind_some, if_pos rfl]
  by_cases h1 : (l.length : Int) > 6
  · rw [if_pos h1]
    exact bad
  · rw [if_neg h1]
    by_cases h2 : (fs.length : Int) > 8
    · rw [decide_eq_true h2]
      exact bad
    · rw [decide_eq_false h2]
      simp only [schismalaw05_RowCombines.j0, Bool.false_eq_true, if_false]
      by_cases h3 : (l.length : Int) = 0
      · have hc : row_Combine.f K l fs = some ([], 13) := by
          unfold row_Combine.f
          rw [if_pos h3]
        rw [hc, Option.bind_some, if_pos h3, if_pos (by simp)]
        rfl
      · have hc := comb_eq l fs (by omega) (by omega) (show 2000 ≤ K by omega)
        have hc' : row_Combine.f K l fs = some (combV l fs) := hc
        rw [hc', Option.bind_some, if_neg h3]
        exact law_loop l fs (combV l fs).1 (combV l fs).2 (by omega) (by omega) rfl l.length 0 K (by omega) (by omega) rfl (by omega)
end Go.Proofs.YtpbbekbdpodedaaDoor.Pure
namespace Go.Proofs.YtpbbekbdpodedaaDoor
open Go.ChangeShapes Go.WideShapes Go.RowKit Go.Proofs.YtpbbekbdpodedaaDoorW.PrintWords Go.Proofs.YtpbbekbdpodedaaDoorW.PrintLast Go.Proofs.YtpbbekbdpodedaaDoorW.PrintMore
set_option linter.unusedVariables false
set_option linter.unusedSimpArgs false

/-- A list of rows that came in, opened. -/
theorem open_rowsC {H : Type} {enc : TypeId × Value → H} {W : World} {base : Nat} {held : Bool} {a : Option Addr} {len cap : Nat} {d : DataW H} {ps : List MemPlace}
    (h : DataW.Trod enc Tryd.prog W base (fun _ => true) held 28 (.slice a len cap) d ps) :
    ∃ l : List (List Int), len = l.length ∧ Kd.C (Kd.slice 3 (Kd.int .i64)) W a l.length l ∧ l.length ≤ cap := by
  obtain ⟨fuel, hf⟩ := h
  rcases Go.Deep.open_int_rows Tryd.underlying28 Tryd.underlying23 Tryd.underlying3 (by kernel_rfl) (by kernel_rfl) hf with ⟨hcs, _⟩ | ⟨x, n, c, A, L, C, Z, hcs, _, hl, hm, _, hrows⟩
  · simp [Value.cells] at hcs
    obtain ⟨rfl, rfl, rfl⟩ := hcs
    exact ⟨[], rfl, Kd.C_nil _ _, Nat.le_refl _⟩
  · simp [Value.cells] at hcs
    obtain ⟨rfl, rfl, rfl⟩ := hcs
    have hmx : maxLen ≤ 9223372036854775807 := by unfold maxLen; omega
    have hlen : ((List.range len).map fun r => (Z r).take (L r)).length = len := by simp
    refine ⟨(List.range len).map fun r => (Z r).take (L r), hlen.symm, ?_, by rw [hlen]; exact hl⟩
    rw [hlen]
    refine ⟨hlen, by omega, fun hn => ⟨x, rfl, fun j p hj => ?_⟩⟩
    have hjl : j < len := by have := (List.getElem?_eq_some_iff.1 hj).1; rwa [hlen] at this
    obtain ⟨hc, h1, h2, h3, h4, h5, h6⟩ := hrows j (by omega)
    have hp : (Z j).take (L j) = p := by
      rw [List.getElem?_map, List.getElem?_range hjl] at hj
      exact Option.some.inj hj
    have hpl : p.length = L j := by rw [← hp, List.length_take]; omega
    refine ⟨[.slice (A j) (L j) (C j)], rfl, ⟨A j, C j, by rw [hpl], by omega, rfl, by omega, fun hpn => ?_⟩, fun i u hu => ?_⟩
    · cases hA : A j with
      | none => have := h5 hA; omega
      | some a' =>
        refine ⟨a', rfl, fun i q hq => ⟨[.int .i64 q], rfl, rfl, fun i' u hu => ?_⟩⟩
        obtain ⟨hi1, hi2⟩ := List.getElem?_eq_some_iff.1 hq
        have hcell := (h6 a' hA).2 i (by omega)
        have he : (Z j).getD i 0 = q := by
          have hiL : i < L j := by omega
          rw [List.getD_eq_getElem?_getD, ← List.getElem?_take_of_lt hiL, hp, hq]
          rfl
        rw [he] at hcell
        cases i' with
        | zero =>
          simp at hu
          subst hu
          show W.cell? (a'.add (i * 1 + 0)) = _
          simpa using hcell
        | succ i' => simp at hu
    · cases i with
      | zero =>
        simp at hu
        subst hu
        simpa [Kd.slice] using hc
      | succ i => simp at hu
end Go.Proofs.YtpbbekbdpodedaaDoor
