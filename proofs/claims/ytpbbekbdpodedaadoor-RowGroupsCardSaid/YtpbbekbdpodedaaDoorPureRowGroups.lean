import Derived.Test.YtpbbekbdpodedaaDoorPR18
import Derived.Test.YtpbbekbdpodedaaDoorK0
import Derived.Test.YtpbbekbdpodedaaDoorH3
namespace Go.Proofs.YtpbbekbdpodedaaDoor.Pure
open Go.RowKit Go.Proofs.YtpbbekbdpodedaaDoor Go.Proofs.YtpbbekbdpodedaaDoor.PR Go.Proofs.YtpbbekbdpodedaaDoorW.PrintWords Go.Proofs.YtpbbekbdpodedaaDoorW.PrintLast Go.Proofs.YtpbbekbdpodedaaDoorW.PrintMore H
set_option linter.unusedVariables false
set_option linter.unusedSimpArgs false

theorem drop_rd (l : List Int) (i : Nat) (h : i < l.length) : l.drop i = rd l (i : Int) :: l.drop (i + 1) := by
  rw [List.drop_eq_getElem_cons h]
  congr 1
  unfold rd
  rw [Int.toNat_natCast, List.getD_eq_getElem?_getD, List.getElem?_eq_getElem h]
  rfl
theorem rd_mem (l : List Int) (i : Nat) (h : i < l.length) : rd l (i : Int) ∈ l := by
  unfold rd
  rw [Int.toNat_natCast, List.getD_eq_getElem?_getD, List.getElem?_eq_getElem h]
  exact List.getElem_mem h
theorem wr1 {i : Nat} {n : Nat} (h : i < n) (hn : n ≤ 4000000000000000000) : wrap64 ((i : Int) + 1) = ((i + 1 : Nat) : Int) := by
  unfold wrap64
  omega
theorem pred {k d : Nat} (h : d < k) : ∃ m, k = m + 1 := ⟨k - 1, by omega⟩

theorem all_chk {l : List Int} (h : l.length ≤ 64) : chk l = if l.all fitB = true then 0 else 4 := by
  unfold chk
  by_cases h2 : l.all fitB = true
  · rw [if_pos ⟨h, h2⟩, if_pos h2]
  · rw [if_neg (fun h' => h2 h'.2), if_neg h2]
theorem chk_fits {l : List Int} (h : chk l = 0) : ∀ x ∈ l, -1000000000 ≤ x ∧ x ≤ 1000000000 := (chk_ok h).2
theorem result_eq (l : List Int) : row_result.f l = some (okR l, chk l) := by
  unfold row_result.f row_Check.f okR
  simp only [Option.bind_some]
  by_cases h : chk l = 0
  · rw [if_pos h, if_pos h, h]
  · rw [if_neg h, if_neg h]
theorem rowScale_l (a : Int) (l : List Int) (hl : l.length ≤ 64) (d : Nat) : ∀ (i k : Nat) (out : List Int), l.length - i = d → i ≤ l.length → out.length ≤ i → d < k →
    row_Scale.l0 k a out l (l.length : Int) i = some (okR (out ++ (l.drop i).map fun x => wrap64 (a * x)), chk (out ++ (l.drop i).map fun x => wrap64 (a * x))) := by
  induction d with
  | zero =>
    intro i k out hd hi ho hk
    obtain ⟨k, rfl⟩ := pred hk
    simp only [row_Scale.l0]
    rw [if_neg (by omega), List.drop_eq_nil_of_le (by omega), result_eq]
    simp
  | succ d ih =>
    intro i k out hd hi ho hk
    obtain ⟨k, rfl⟩ := pred hk
    have hlt : i < l.length := by omega
    simp only [row_Scale.l0]
    rw [if_pos (by omega), if_pos (by omega), if_pos (by omega), if_pos (by omega), drop_rd l i hlt, wr1 hlt (by omega), ih (i + 1) k _ (by omega) (by omega) (by simp; omega) (by omega)]
    simp
def scaleR (l : List Int) (a : Int) : List Int × Int :=
  if chk l = 0 then (if fitB a = true then (okR (l.map fun x => wrap64 (a * x)), chk (l.map fun x => wrap64 (a * x))) else if zro l = true then (List.replicate l.length 0, 0) else ([], 4)) else ([], chk l)
theorem rowFits' (x : Int) : row_fits.f x = some (fitB x) := by
  unfold row_fits.f
  by_cases h1 : x ≥ -1000000000
  · rw [if_pos h1]
    by_cases h2 : x ≤ 1000000000
    · rw [decide_eq_true h2, fitB_true h1 h2]
    · rw [decide_eq_false h2, fitB_hi (by omega)]
  · rw [if_neg h1, fitB_lo (by omega)]
theorem rowScale (l : List Int) (a : Int) {k : Nat} (hk : 100 ≤ k) : row_Scale.f k l a = some (scaleR l a) := by
  unfold row_Scale.f row_Check.f scaleR
  simp only [Option.bind_some]
  by_cases h : chk l = 0
  · rw [if_pos h, if_pos h, rowFits']
    have hl := (chk_ok h).1
    simp only [Option.bind_some]
    by_cases h2 : fitB a = true
    · rw [if_pos h2, if_pos h2, if_pos (by omega), if_pos (by rw [Int.toNat_natCast]; omega)]
      have := rowScale_l a l hl l.length 0 k [] (by omega) (by omega) (by simp) (by omega)
      simpa using this
    · rw [if_neg h2, if_neg h2]
      unfold row_IsZero.f
      simp only [Option.bind_some]
      by_cases h3 : zro l = true
      · rw [if_pos h3, if_pos h3, if_pos (by omega), if_pos (by rw [Int.toNat_natCast]; omega), Int.toNat_natCast]
      · rw [if_neg h3, if_neg h3]
  · rw [if_neg h, if_neg h]
/-! ### Normal -/
/-- Is the first element that is not 0 negative? -/
def nsgn : List Int → Bool
  | [] => false
  | x :: l => if x < 0 then true else if x > 0 then false else nsgn l
def normL (l : List Int) : List Int := if nsgn l = true then l.map (fun x => wrap64 (-x)) else l
theorem idx_cons (x : Int) (l : List Int) : idx nzB (x :: l) = if x ≠ 0 then 0 else if 0 ≤ idx nzB l then idx nzB l + 1 else -1 := by
  unfold idx
  rw [List.findIdx?_cons]
  by_cases hx : x = 0
  · subst hx
    simp only [nzB]
    cases h : List.findIdx? nzB l with
    | none => simp [h]
    | some j => simp [h]
  · simp [nzB, hx]
theorem idx_sgn : ∀ (l : List Int), (idx nzB l < 0 → nsgn l = false) ∧ (0 ≤ idx nzB l → idx nzB l < l.length ∧ (nsgn l = true ↔ rd l (idx nzB l) < 0))
  | [] => ⟨fun _ => rfl, fun h => by simp [idx] at h⟩
  | x :: l => by
    obtain ⟨h1, h2⟩ := idx_sgn l
    by_cases hx : x = 0
    · subst hx
      have en : nsgn (0 :: l) = nsgn l := by simp [nsgn]
      rw [en]
      by_cases h0 : 0 ≤ idx nzB l
      · have ei : idx nzB (0 :: l) = idx nzB l + 1 := by rw [idx_cons, if_neg (by simp), if_pos h0]
        rw [ei]
        obtain ⟨h3, h4⟩ := h2 h0
        refine ⟨fun h => by omega, fun _ => ⟨by simp only [List.length_cons]; omega, ?_⟩⟩
        rw [h4]
        obtain ⟨j, hj⟩ : ∃ j : Nat, idx nzB l = j := ⟨(idx nzB l).toNat, by omega⟩
        rw [hj]
        have : rd (0 :: l) ((j : Int) + 1) = rd l j := by
          unfold rd
          rw [show ((j : Int) + 1).toNat = j + 1 from by omega, Int.toNat_natCast]
          rfl
        rw [this]
      · have ei : idx nzB (0 :: l) = -1 := by rw [idx_cons, if_neg (by simp), if_neg h0]
        rw [ei]
        exact ⟨fun _ => h1 (by omega), fun h => by omega⟩
    · have ei : idx nzB (x :: l) = 0 := by rw [idx_cons, if_pos hx]
      rw [ei]
      refine ⟨fun h => by omega, fun _ => ⟨by simp only [List.length_cons]; omega, ?_⟩⟩
      have : rd (x :: l) 0 = x := rfl
      rw [this]
      unfold nsgn
      by_cases h3 : x < 0
      · rw [if_pos h3]
        simp [h3]
      · rw [if_neg h3, if_pos (by omega)]
        simp [h3]
theorem neg_eq {l : List Int} (h : chk l = 0) : scaleR l (-1) = (l.map (fun x => wrap64 (-x)), 0) := by
  obtain ⟨hl, hb⟩ := chk_ok h
  have e : (l.map fun x => wrap64 (-1 * x)) = l.map fun x => wrap64 (-x) := by
    apply List.map_congr_left
    intro x hx
    rw [show -1 * x = -x from by omega]
  have hc : chk (l.map fun x => wrap64 (-x)) = 0 := by
    rw [all_chk (by simp; omega), if_pos]
    rw [List.all_eq_true]
    intro y hy
    obtain ⟨x, hx, rfl⟩ := List.mem_map.1 hy
    have := hb x hx
    exact fitB_true (by unfold wrap64; omega) (by unfold wrap64; omega)
  unfold scaleR
  rw [if_pos h, if_pos (by decide), e, hc]
  unfold okR
  rw [if_pos hc]
theorem rowNormal {l : List Int} (h : chk l = 0) {k : Nat} (hk : 200 ≤ k) : row_Normal.f k l = some (normL l, 0) := by
  obtain ⟨hl, hb⟩ := chk_ok h
  obtain ⟨h1, h2⟩ := idx_sgn l
  have hneg : row_Neg.f k l = some (l.map (fun x => wrap64 (-x)), 0) := by unfold row_Neg.f; rw [rowScale l (-1) (by omega), neg_eq h]; rfl
  unfold row_Normal.f row_Check.f IndexFunc_58.f normL
  simp only [Option.bind_some]
  rw [if_pos h]
  by_cases h0 : 0 ≤ idx nzB l
  · obtain ⟨h3, h4⟩ := h2 h0
    rw [if_pos h0, if_pos h0, if_pos h3]
    by_cases h5 : rd l (idx nzB l) < 0
    · rw [if_pos h5, if_pos (h4.2 h5), hneg]
      rfl
    · rw [if_neg h5, if_neg (fun e => h5 (h4.1 e))]
      simp only [List.length_nil, Nat.zero_add, List.nil_append]
      rw [if_pos (by omega)]
  · rw [if_neg h0, h1 (by omega)]
    simp only [List.length_nil, Nat.zero_add, List.nil_append]
    rw [if_pos (by omega)]
    simp

/-! ### the small rows of the law -/
theorem dotp_cons (x : Int × Int) (l : List (Int × Int)) : dotp (x :: l) = x.1 * x.2 + dotp l := by
  have key : ∀ (l : List (Int × Int)) (s : Int), l.foldl (fun s x => s + x.1 * x.2) s = s + l.foldl (fun s x => s + x.1 * x.2) 0 := by
    intro l
    induction l with
    | nil => intro s; simp
    | cons y l ih =>
      intro s
      rw [List.foldl_cons, List.foldl_cons, ih (s + y.1 * y.2), ih (0 + y.1 * y.2)]
      omega
  unfold dotp
  rw [List.foldl_cons, key]
  omega
/-- A row of small numbers. -/
def Sm (B : Int) (l : List Int) : Prop := ∀ x ∈ l, -B ≤ x ∧ x ≤ B
theorem Sm.chk {B : Int} {l : List Int} (h : Sm B l) (hB : B ≤ 1000000000) (hl : l.length ≤ 64) : chk l = 0 := by
  rw [all_chk hl, if_pos]
  rw [List.all_eq_true]
  intro x hx
  have := h x hx
  exact fitB_true (by omega) (by omega)
theorem Sm.both {B C : Int} {a b : List Int} (ha : Sm B a) (hb : Sm C b) (hB : B ≤ 1000000000) (hC : C ≤ 1000000000) (hl : a.length ≤ 64) (hab : a.length = b.length) : bth a b = 0 := by
  unfold bth
  rw [if_pos (ha.chk hB hl), if_pos (hb.chk hC (by omega)), if_pos hab]
theorem mulB {a b A B : Int} (ha : -A ≤ a ∧ a ≤ A) (hb : -B ≤ b ∧ b ≤ B) : -(A * B) ≤ a * b ∧ a * b ≤ A * B := by
  have h1 : a.natAbs ≤ A.toNat := by omega
  have h2 : b.natAbs ≤ B.toNat := by omega
  have h3 := Nat.mul_le_mul h1 h2
  rw [← Int.natAbs_mul] at h3
  have h4 : ((A.toNat * B.toNat : Nat) : Int) = A * B := by
    rw [Int.natCast_mul, Int.toNat_of_nonneg (by omega), Int.toNat_of_nonneg (by omega)]
  omega
theorem make_l (l : List Int) (hl : l.length ≤ 8) (hs : Sm 128 l) (d : Nat) : ∀ (i k : Nat) (out : List Int), l.length - i = d → i ≤ l.length → out.length ≤ i → d < k → schismalaw05_Make.l0 k l out i = some (out ++ l.drop i) := by
  induction d with
  | zero =>
    intro i k out hd hi ho hk
    obtain ⟨k, rfl⟩ := pred hk
    simp only [schismalaw05_Make.l0]
    rw [if_neg (by omega), List.drop_eq_nil_of_le (by omega), List.append_nil]
  | succ d ih =>
    intro i k out hd hi ho hk
    obtain ⟨k, rfl⟩ := pred hk
    have hlt : i < l.length := by omega
    have hx := hs _ (rd_mem l i hlt)
    simp only [schismalaw05_Make.l0]
    rw [if_pos (by omega), if_pos (by omega), if_pos (by omega), if_pos (by omega), drop_rd l i hlt, wr1 hlt (by omega), ih (i + 1) k _ (by omega) (by omega) (by simp; omega) (by omega)]
    rw [show wrap64 (rd l i) = rd l i from by unfold wrap64; omega]
    simp
theorem make_eq {l : List Int} (hl : l.length ≤ 8) (hs : Sm 128 l) {k : Nat} (hk : 100 ≤ k) : schismalaw05_Make.f k l = some l := by
  have := make_l l hl hs l.length 0 k [] (by omega) (by omega) (by simp) (by omega)
  simpa [schismalaw05_Make.f] using this
theorem fit_l (b a : List Int) (hl : a.length ≤ 8) (hs : Sm 128 b) (hb : b.length ≤ 8) (d : Nat) : ∀ (i k : Nat) (out : List Int), a.length - i = d → i ≤ a.length → out.length = i → Sm 128 out → d < k →
    ∃ r, schismalaw05_fit.l0 k b a out i = some r ∧ r.length = a.length ∧ Sm 128 r := by
  induction d with
  | zero =>
    intro i k out hd hi ho hS hk
    obtain ⟨k, rfl⟩ := pred hk
    simp only [schismalaw05_fit.l0]
    rw [if_neg (by omega)]
    exact ⟨out, rfl, by omega, hS⟩
  | succ d ih =>
    intro i k out hd hi ho hS hk
    obtain ⟨k, rfl⟩ := pred hk
    have hlt : i < a.length := by omega
    simp only [schismalaw05_fit.l0]
    rw [if_pos (by omega), wr1 hlt (by omega)]
    by_cases hc : i < b.length
    · have hx := hs _ (rd_mem b i hc)
      rw [if_pos (by omega), if_pos (by omega), if_pos (by omega)]
      refine ih (i + 1) k _ (by omega) (by omega) (by simp; omega) ?_ (by omega)
      intro x h
      rcases List.mem_append.1 h with h | h
      · exact hS x h
      · rw [List.mem_singleton.1 h]; exact hx
    · rw [if_neg (by omega), if_pos (by omega)]
      refine ih (i + 1) k _ (by omega) (by omega) (by simp; omega) ?_ (by omega)
      intro x h
      rcases List.mem_append.1 h with h | h
      · exact hS x h
      · rw [List.mem_singleton.1 h]; omega
theorem fit_eq {b a : List Int} (hl : a.length ≤ 8) (hs : Sm 128 b) (hb : b.length ≤ 8) {k : Nat} (hk : 100 ≤ k) : ∃ r, schismalaw05_fit.f k b a = some r ∧ r.length = a.length ∧ Sm 128 r := by
  have := fit_l b a hl hs hb a.length 0 k [] (by omega) (by omega) (by simp) (by intro x h; cases h) (by omega)
  simpa [schismalaw05_fit.f] using this
theorem eqSelf_l (a : List Int) (ha : a.length ≤ 100) (d : Nat) : ∀ (i k : Nat), a.length - i = d → i ≤ a.length → d < k → api_Row_int_67.l0 k a a (a.length : Int) i = some true := by
  induction d with
  | zero =>
    intro i k hd hi hk
    obtain ⟨k, rfl⟩ := pred hk
    simp only [api_Row_int_67.l0]
    rw [if_neg (by omega)]
  | succ d ih =>
    intro i k hd hi hk
    obtain ⟨k, rfl⟩ := pred hk
    have hlt : i < a.length := by omega
    simp only [api_Row_int_67.l0]
    rw [if_pos (by omega), if_pos (by omega), if_pos (by omega), if_pos (by omega), if_pos trivial, wr1 hlt (by omega), ih (i + 1) k (by omega) (by omega) (by omega)]
theorem eqSelf {a b : List Int} (hab : a = b) (ha : a.length ≤ 100) {k : Nat} (hk : 200 ≤ k) : row_Equal.f k a b = some true := by
  subst hab
  unfold row_Equal.f api_Row_int_67.f
  rw [if_pos rfl]
  have := eqSelf_l a ha a.length 0 k (by omega) (by omega) (by omega)
  simp only [Int.natCast_zero] at this
  rw [this]
  rfl
theorem add_small {a b : List Int} {B C : Int} (ha : Sm B a) (hb : Sm C b) (hB : B ≤ 100000000) (hC : C ≤ 100000000) (hl : a.length ≤ 64) (hab : a.length = b.length) :
    row_Add.f a b = some (addL (a.zip b), 0) := by
  unfold row_Add.f
  rw [ha.both hb (by omega) (by omega) hl hab]
  have h2 : Sm 200000000 (addL (a.zip b)) := by
    intro y hy
    obtain ⟨⟨x1, x2⟩, hx, rfl⟩ := List.mem_map.1 hy
    have hm := List.of_mem_zip hx
    have e1 := ha _ hm.1
    have e2 := hb _ hm.2
    simp only
    unfold wrap64
    omega
  have hc := h2.chk (by omega) (by rw [addL_length, List.length_zip]; omega)
  unfold addR okR
  rw [if_pos rfl, if_pos hc, hc]
theorem add_comm : ∀ (a b : List Int), addL (a.zip b) = addL (b.zip a)
  | [], b => by cases b <;> rfl
  | x :: a, [] => rfl
  | x :: a, y :: b => by
    have := add_comm a b
    unfold addL at this ⊢
    simp only [List.zip_cons_cons, List.map_cons]
    rw [this, Int.add_comm]
def neg (a : List Int) : List Int := a.map fun x => wrap64 (-x)
theorem add_neg : ∀ (a : List Int), Sm 128 a → addL (a.zip (neg a)) = List.replicate a.length 0
  | [], _ => rfl
  | x :: a, h => by
    have := add_neg a (fun y hy => h y (List.mem_cons_of_mem _ hy))
    have hx := h x (List.mem_cons_self ..)
    unfold addL neg at this ⊢
    simp only [List.zip_cons_cons, List.map_cons, List.length_cons, List.replicate_succ]
    rw [this]
    congr 1
    unfold wrap64
    omega
theorem add_zero : ∀ (a : List Int), Sm 128 a → addL (a.zip (List.replicate a.length 0)) = a
  | [], _ => rfl
  | x :: a, h => by
    have := add_zero a (fun y hy => h y (List.mem_cons_of_mem _ hy))
    have hx := h x (List.mem_cons_self ..)
    unfold addL at this ⊢
    simp only [List.zip_cons_cons, List.map_cons, List.length_cons, List.replicate_succ]
    rw [this]
    congr 1
    unfold wrap64
    omega
theorem dot_comm : ∀ (a b : List Int), dotp (a.zip b) = dotp (b.zip a)
  | [], b => by cases b <;> rfl
  | x :: a, [] => rfl
  | x :: a, y :: b => by
    rw [List.zip_cons_cons, List.zip_cons_cons, dotp_cons, dotp_cons, dot_comm a b, Int.mul_comm]
theorem dot_scale (c : Int) (hc : -128 ≤ c ∧ c ≤ 128) : ∀ (a b : List Int), Sm 128 a → dotp ((a.map fun x => wrap64 (c * x)).zip b) = c * dotp (a.zip b)
  | [], b, _ => by
    show dotp [] = c * dotp []
    simp [dotp]
  | x :: a, [], _ => by
    show dotp [] = c * dotp []
    simp [dotp]
  | x :: a, y :: b, h => by
    have hx := h x (List.mem_cons_self ..)
    have hm := mulB hc hx
    have := dot_scale c hc a b (fun y hy => h y (List.mem_cons_of_mem _ hy))
    rw [List.map_cons, List.zip_cons_cons, List.zip_cons_cons, dotp_cons, dotp_cons, this]
    simp only
    rw [show wrap64 (c * x) = c * x from by unfold wrap64; omega, Int.mul_add, Int.mul_assoc]
theorem dot_bound : ∀ (a b : List Int), Sm 128 a → Sm 128 b → -(16384 * (a.length : Int)) ≤ dotp (a.zip b) ∧ dotp (a.zip b) ≤ 16384 * (a.length : Int)
  | [], b, _, _ => by
    show -(16384 * ((([] : List Int).length : Nat) : Int)) ≤ dotp [] ∧ dotp [] ≤ _
    simp [dotp]
  | x :: a, [], _, _ => by
    show _ ≤ dotp [] ∧ dotp [] ≤ _
    simp [dotp]
    omega
  | x :: a, y :: b, h, h' => by
    have hx := h x (List.mem_cons_self ..)
    have hy := h' y (List.mem_cons_self ..)
    have hm := mulB hx hy
    have := dot_bound a b (fun y hy => h y (List.mem_cons_of_mem _ hy)) (fun y hy => h' y (List.mem_cons_of_mem _ hy))
    rw [List.zip_cons_cons, dotp_cons]
    simp only [List.length_cons]
    omega
theorem nsgn_neg : ∀ (a : List Int), Sm 128 a → (nsgn a = true → nsgn (neg a) = false) ∧ (nsgn a = false → nsgn (neg a) = false → neg a = a)
  | [], _ => ⟨fun h => by simp [nsgn] at h, fun _ _ => rfl⟩
  | x :: a, h => by
    obtain ⟨h1, h2⟩ := nsgn_neg a (fun y hy => h y (List.mem_cons_of_mem _ hy))
    have hx := h x (List.mem_cons_self ..)
    have e : neg (x :: a) = (-x) :: neg a := by
      unfold neg
      rw [List.map_cons, show wrap64 (-x) = -x from by unfold wrap64; omega]
    rw [e]
    unfold nsgn
    by_cases c1 : x < 0
    · rw [if_pos c1, if_neg (by omega), if_pos (by omega)]
      exact ⟨fun _ => rfl, fun h => by cases h⟩
    · rw [if_neg c1]
      by_cases c2 : x > 0
      · rw [if_pos c2, if_pos (by omega)]
        exact ⟨fun h => by simp at h, fun _ h => by simp at h⟩
      · rw [if_neg c2, if_neg (by omega), if_neg (by omega)]
        refine ⟨h1, fun h3 h4 => ?_⟩
        rw [h2 h3 h4, show -x = x from by omega]
theorem neg_neg (a : List Int) (h : Sm 128 a) : neg (neg a) = a := by
  unfold neg
  rw [List.map_map]
  conv => rhs; rw [← List.map_id a]
  apply List.map_congr_left
  intro x hx
  have := h x hx
  simp only [Function.comp_apply, id]
  unfold wrap64
  omega
theorem normL_neg {a : List Int} (h : Sm 128 a) : normL a = normL (neg a) := by
  obtain ⟨h1, h2⟩ := nsgn_neg a h
  unfold normL
  cases e : nsgn a with
  | true =>
    rw [h1 e, if_pos rfl, if_neg (by decide)]
    rfl
  | false =>
    cases e' : nsgn (neg a) with
    | true =>
      rw [if_neg (by decide), if_pos rfl]
      exact (neg_neg a h).symm
    | false =>
      rw [if_neg (by decide), if_neg (by decide)]
      exact (h2 e e').symm
theorem normL_length (l : List Int) : (normL l).length = l.length := by unfold normL; split <;> simp
theorem zero_eq {n : Nat} (h : n ≤ 64) : row_Zero.f (n : Int) = some (List.replicate n 0, 0) := by
  unfold row_Zero.f
  rw [if_neg (by omega), if_neg (by omega), if_pos (by omega), Int.toNat_natCast, if_pos (by omega)]
theorem dot_fit {a b : List Int} {B C : Int} (ha : Sm B a) (hb : Sm C b) (hB : B ≤ 1000000000) (hC : C ≤ 1000000000) (hl : a.length ≤ 64) (hab : a.length = b.length)
    (hd : -1000000000 ≤ dotp (a.zip b) ∧ dotp (a.zip b) ≤ 1000000000) : row_Dot.f a b = some (dotp (a.zip b), 0) := by
  unfold row_Dot.f
  rw [if_pos (ha.both hb hB hC hl hab), if_pos (fitB_true hd.1 hd.2)]
theorem scale_fit {a : List Int} (ha : Sm 128 a) (hl : a.length ≤ 64) {c : Int} (hc : -128 ≤ c ∧ c ≤ 128) {k : Nat} (hk : 100 ≤ k) :
    row_Scale.f k a c = some (a.map (fun x => wrap64 (c * x)), 0) ∧ Sm 16384 (a.map fun x => wrap64 (c * x)) := by
  have h2 : Sm 16384 (a.map fun x => wrap64 (c * x)) := by
    intro y hy
    obtain ⟨x, hx, rfl⟩ := List.mem_map.1 hy
    have := mulB hc (ha x hx)
    unfold wrap64
    omega
  refine ⟨?_, h2⟩
  rw [rowScale a c hk]
  have hcc := h2.chk (by omega) (by rw [List.length_map]; exact hl)
  unfold scaleR okR
  rw [if_pos (ha.chk (by omega) hl), if_pos (fitB_true (by omega) (by omega)), if_pos hcc, hcc]
theorem neg_small {a : List Int} (ha : Sm 128 a) : Sm 128 (neg a) := by
  intro y hy
  obtain ⟨x, hx, rfl⟩ := List.mem_map.1 hy
  have := ha x hx
  unfold wrap64
  omega
theorem neg_fit {a : List Int} (ha : Sm 128 a) (hl : a.length ≤ 64) {k : Nat} (hk : 100 ≤ k) : row_Neg.f k a = some (neg a, 0) := by
  unfold row_Neg.f
  rw [rowScale a (-1) hk, neg_eq (ha.chk (by omega) hl)]
  rfl
theorem groups_j1 {a b : List Int} {c : Int} (ha : Sm 128 a) (hb : Sm 128 b) (hl : a.length ≤ 8) (hab : a.length = b.length) (hc : -128 ≤ c ∧ c ≤ 128) {k : Nat} (hk : 500 ≤ k) :
    schismalaw05_RowGroups.j1 (k + 1) c a b (neg a) false = some true := by
  have hd := dot_bound a b ha hb
  have hm := mulB hc (show -(131072 : Int) ≤ dotp (a.zip b) ∧ dotp (a.zip b) ≤ 131072 by omega)
  have d1 := dot_fit ha hb (by omega) (by omega) (by omega) hab (by omega)
  have d2 : row_Dot.f b a = some (dotp (a.zip b), 0) := by
    rw [dot_fit hb ha (by omega) (by omega) (by omega) hab.symm (by rw [← dot_comm]; omega), ← dot_comm]
  have hw : wrap64 c = c := by unfold wrap64; omega
  obtain ⟨s1, s2⟩ := scale_fit ha (by omega) hc (show 100 ≤ k by omega)
  have d3 := dot_fit s2 hb (by omega) (by omega) (by rw [List.length_map]; omega) (by rw [List.length_map]; exact hab) (by rw [dot_scale c hc a b ha]; omega)
  rw [dot_scale c hc a b ha] at d3
  have n1 := rowNormal (ha.chk (by omega) (by omega)) (show 200 ≤ k by omega)
  have n2 := rowNormal ((neg_small ha).chk (by omega) (by unfold neg; rw [List.length_map]; omega)) (show 200 ≤ k by omega)
  have q := eqSelf (normL_neg ha) (by rw [normL_length]; omega) (show 200 ≤ k by omega)
  have hw2 : wrap64 (c * dotp (a.zip b)) = c * dotp (a.zip b) := by unfold wrap64; omega
  simp only [schismalaw05_RowGroups.j1]
  rw [hw, d1, d2, s1, n1, n2]
  simp only [Option.bind_some, Bool.false_eq_true, if_false, if_true]
  rw [d3]
  simp only [Option.bind_some, if_true]
  rw [hw2, if_pos rfl, q]
  rfl
theorem groups_j0 {a b : List Int} {c : Int} (ha : Sm 128 a) (hb : Sm 128 b) (hl : a.length ≤ 8) (hab : b.length ≤ 8) (hc : -128 ≤ c ∧ c ≤ 128) {k : Nat} (hk : 1000 ≤ k) :
    schismalaw05_RowGroups.j0 (k + 1 + 1) a b c false = some true := by
  obtain ⟨r, f1, f2, f3⟩ := fit_eq hl hb hab (show 100 ≤ k + 1 by omega) (a := a)
  have m1 := make_eq hl ha (show 100 ≤ k + 1 by omega)
  have m2 := make_eq hab hb (show 100 ≤ k + 1 by omega)
  have z := zero_eq (show a.length ≤ 64 by omega)
  have g := neg_fit ha (by omega) (show 100 ≤ k + 1 by omega)
  have zs : Sm 0 (List.replicate a.length 0) := by
    intro x hx
    rw [(List.mem_replicate.1 hx).2]
    omega
  have a1 := add_small ha f3 (by omega) (by omega) (by omega) f2.symm
  have a2 := add_small f3 ha (by omega) (by omega) (by omega) f2
  have a3 := add_small ha (neg_small ha) (by omega) (by omega) (by omega) (by unfold neg; rw [List.length_map])
  have a4 := add_small ha zs (by omega) (by omega) (by omega) (by rw [List.length_replicate])
  rw [add_comm r a] at a2
  rw [add_neg a ha] at a3
  rw [add_zero a ha] at a4
  have q1 := eqSelf (rfl : addL (a.zip r) = addL (a.zip r)) (by rw [addL_length, List.length_zip]; omega) (show 200 ≤ k + 1 by omega)
  have q2 := eqSelf (rfl : List.replicate a.length (0 : Int) = List.replicate a.length 0) (by rw [List.length_replicate]; omega) (show 200 ≤ k + 1 by omega)
  have q3 := eqSelf (rfl : a = a) (by omega) (show 200 ≤ k + 1 by omega)
  have j := groups_j1 ha f3 hl f2.symm hc (show 500 ≤ k by omega)
  simp only [schismalaw05_RowGroups.j0, Bool.false_eq_true, if_false]
  rw [m1, Option.bind_some, m2, Option.bind_some, f1, Option.bind_some, z, Option.bind_some, g, Option.bind_some, a1, Option.bind_some, a2, Option.bind_some, a3, Option.bind_some, a4, Option.bind_some]
  rw [if_pos rfl, if_pos rfl, if_pos rfl, if_pos rfl, if_pos rfl, if_pos rfl, q1, Option.bind_some, if_pos rfl, q2, Option.bind_some, if_pos rfl, q3, Option.bind_some]
  exact j
theorem bd8 {n : Int} (h : (Lit.int .i8 n).wf = true) : -128 ≤ n ∧ n ≤ 127 := by
  simp [Lit.wf, IntKind.min, IntKind.max, IntKind.signed, IntKind.bits] at h
  omega
theorem RowGroups : schismalaw05_RowGroups.Pure := by
  intro a b c _ _ wa _ _ wb wc
  have ha : Sm 128 a := fun x hx => by have := bd8 (wa x hx); omega
  have hb : Sm 128 b := fun x hx => by have := bd8 (wb x hx); omega
  have hc : -128 ≤ c ∧ c ≤ 128 := by have := bd8 wc; omega
  obtain ⟨K, hK⟩ : ∃ K : Nat, 2000 ≤ K := ⟨2000, Nat.le_refl _⟩
  refine ⟨K + 1 + 1, ?_⟩
  unfold schismalaw05_RowGroups.f
  rw [known_any (by omega), Option.bind_some, if_pos rfl]
  have bad : schismalaw05_RowGroups.j0 (K + 1 + 1) a b c true = some true := by
    simp only [schismalaw05_RowGroups.j0, if_true]
    rw [known_any (by omega)]
    rfl
  by_cases h1 : (a.length : Int) > 8
  · rw [if_pos h1]
    exact bad
  · rw [if_neg h1]
    by_cases h2 : (b.length : Int) > 8
    · rw [decide_eq_true h2]
      exact bad
    · rw [decide_eq_false h2]
      exact groups_j0 ha hb (by omega) (by omega) hc (by omega)
end Go.Proofs.YtpbbekbdpodedaaDoor.Pure
