import Derived.Test.YtpbbekbdpodedaaDoorPRZ
import Derived.Test.YtpbbekbdpodedaaDoorPL1
import Derived.Test.YtpbbekbdpodedaaDoorK0
namespace Go.Proofs.YtpbbekbdpodedaaDoor.PL
open Go.RowKit Go.Proofs.YtpbbekbdpodedaaDoor Go.Proofs.YtpbbekbdpodedaaDoor.PR Go.Proofs.YtpbbekbdpodedaaDoorW.PrintWords Go.Proofs.YtpbbekbdpodedaaDoorW.PrintLast Go.Proofs.YtpbbekbdpodedaaDoorW.PrintMore H
set_option linter.unusedVariables false
set_option linter.unusedSimpArgs false

/-! ### bytes -/
/-- A string of bytes. -/
def bs (l : List UInt8) : ByteArray := ⟨l.toArray⟩
theorem bs_data (l : List UInt8) : (bs l).data.toList = l := by simp [bs]
theorem bs_size (l : List UInt8) : (bs l).size = l.length := by rw [Lib.size_eq, bs_data]
theorem bs_of (b : ByteArray) : bs b.data.toList = b := by cases b; simp [bs]
theorem bt_drop {l : List UInt8} {i : Nat} {c : UInt8} {r : List UInt8} (h : l.drop i = c :: r) : bt (bs l) (i : Int) = (c.toNat : Int) := by
  have hlt : i < l.length := by
    rcases Nat.lt_or_ge i l.length with h' | h'
    · exact h'
    · rw [List.drop_eq_nil_of_le h'] at h; cases h
  rw [List.drop_eq_getElem_cons hlt] at h
  injection h with h1 h2
  unfold bt
  rw [dif_pos (by rw [Int.toNat_natCast, bs_size]; exact hlt), ← h1]
  rfl
theorem drop_lt {l : List UInt8} {i : Nat} {c : UInt8} {r : List UInt8} (h : l.drop i = c :: r) : i < l.length ∧ l.drop (i + 1) = r := by
  have hlt : i < l.length := by
    rcases Nat.lt_or_ge i l.length with h' | h'
    · exact h'
    · rw [List.drop_eq_nil_of_le h'] at h; cases h
  rw [List.drop_eq_getElem_cons hlt] at h
  injection h with h1 h2
  exact ⟨hlt, h2⟩
theorem drop_nil {l : List UInt8} {i : Nat} (h : l.drop i = []) : l.length ≤ i := by
  simpa [List.drop_eq_nil_iff] using h
theorem bs_extract (l : List UInt8) (i j : Nat) : (bs l).extract i j = bs ((l.drop i).take (j - i)) := by
  apply ByteArray.ext
  apply Array.ext'
  rw [ByteArray.data_extract, Array.toList_extract, bs_data, bs_data]

/-! ### decimal numbers -/
theorem digN {c : UInt8} (h : digB c = true) : 48 ≤ c.toNat ∧ c.toNat ≤ 57 := by
  unfold digB at h
  simpa using h
theorem digF {c : UInt8} (h : digB c = false) : c.toNat < 48 ∨ 57 < c.toNat := by
  unfold digB at h
  simp at h
  omega
def dv (acc : Nat) : List UInt8 → Nat
  | [] => acc
  | c :: r => dv (acc * 10 + (c.toNat - 48)) r
theorem dv_ge : ∀ (l : List UInt8) (acc : Nat), acc * 10 ^ l.length ≤ dv acc l
  | [], acc => by
    show acc * 10 ^ 0 ≤ acc
    rw [Nat.pow_zero, Nat.mul_one]
    exact Nat.le_refl _
  | c :: r, acc => by
    have := dv_ge r (acc * 10 + (c.toNat - 48))
    unfold dv
    rw [List.length_cons, Nat.pow_succ]
    refine Nat.le_trans ?_ this
    rw [Nat.mul_comm (10 ^ r.length) 10, ← Nat.mul_assoc]
    exact Nat.mul_le_mul_right _ (by omega)
theorem dv_le (l : List UInt8) (acc : Nat) : acc ≤ dv acc l := by
  have := dv_ge l acc
  have h1 : 1 ≤ 10 ^ l.length := Nat.one_le_pow _ _ (by omega)
  have := Nat.mul_le_mul_left acc h1
  omega
theorem parse_dv : ∀ (l : List UInt8) (acc : Nat), acc < 18446744073709551616 → (∀ c ∈ l, digB c = true) →
    Lib.parseUint10 acc l = if dv acc l < 18446744073709551616 then .ok (dv acc l) else .range
  | [], acc, ha, _ => by
    rw [show dv acc [] = acc from rfl, if_pos ha]
    rfl
  | c :: r, acc, ha, h => by
    have hc := digN (h c (List.mem_cons_self ..))
    have hge := dv_le r (acc * 10 + (c.toNat - 48))
    rw [show dv acc (c :: r) = dv (acc * 10 + (c.toNat - 48)) r from rfl]
    simp only [Lib.parseUint10]
    rw [if_pos hc]
    by_cases h1 : 1844674407370955162 ≤ acc
    · rw [if_pos h1, if_neg (by omega)]
    · rw [if_neg h1]
      by_cases h2 : 18446744073709551616 ≤ acc * 10 + (c.toNat - 48)
      · rw [if_pos h2, if_neg (by omega)]
      · rw [if_neg h2]
        exact parse_dv r _ (by omega) (fun x hx => h x (List.mem_cons_of_mem _ hx))
theorem dv_long {l : List UInt8} (h : ∀ c ∈ l, digB c = true) (h0 : l.head? ≠ some 48) (hl : 11 ≤ l.length) : 10000000000 ≤ dv 0 l := by
  cases l with
  | nil => simp at hl
  | cons c r =>
    have hc := digN (h c (List.mem_cons_self ..))
    have hne : c.toNat ≠ 48 := by
      intro e
      apply h0
      rw [List.head?_cons]
      congr 1
      exact UInt8.toNat_inj.1 e
    have := dv_ge r (0 * 10 + (c.toNat - 48))
    unfold dv
    rw [List.length_cons] at hl
    have hp : 10 ^ 10 ≤ 10 ^ r.length := Nat.pow_le_pow_right (by omega) (by omega)
    have h1 := Nat.mul_le_mul_left (0 * 10 + (c.toNat - 48)) hp
    have h2 : 1 * 10 ^ 10 ≤ (0 * 10 + (c.toNat - 48)) * 10 ^ 10 := Nat.mul_le_mul_right _ (by omega)
    omega
theorem dv_short : ∀ (l : List UInt8) (acc : Nat), (∀ c ∈ l, digB c = true) → dv acc l < (acc + 1) * 10 ^ l.length
  | [], acc, _ => by
    show acc < (acc + 1) * 10 ^ 0
    rw [Nat.pow_zero, Nat.mul_one]
    exact Nat.lt_succ_self _
  | c :: r, acc, h => by
    have hc := digN (h c (List.mem_cons_self ..))
    have := dv_short r (acc * 10 + (c.toNat - 48)) (fun x hx => h x (List.mem_cons_of_mem _ hx))
    unfold dv
    rw [List.length_cons, Nat.pow_succ, Nat.mul_comm (10 ^ r.length) 10, ← Nat.mul_assoc]
    refine Nat.lt_of_lt_of_le this ?_
    exact Nat.mul_le_mul_right _ (by omega)

/-! ### the canonical form -/
theorem trim_neg (ds : List UInt8) : Lib.trimPrefix (45 :: ds) [45] = ds := by simp [Lib.trimPrefix, Lib.hasPrefix]
theorem trim_pos {w : List UInt8} (h : w.head? ≠ some 45) : Lib.trimPrefix w [45] = w := by
  cases w with
  | nil => rfl
  | cons a b =>
    have : ¬ 45 = a := fun e => h (by rw [← e]; rfl)
    simp [Lib.trimPrefix, Lib.hasPrefix, this]
theorem canon_neg (ds : List UInt8) : canonB (bs (45 :: ds)) = (ds.all digB && (ds != [] && ds.getD 0 0 != 48)) := by
  unfold canonB
  rw [bs_data, trim_neg]
  have : ((45 :: ds : List UInt8) == [48]) = false := by
    rw [beq_eq_false_iff_ne]
    intro e
    injection e with e _
    exact absurd e (by decide)
  rw [this, Bool.false_or]
theorem canon_pos {w : List UInt8} (h : w.head? ≠ some 45) : canonB (bs w) = (w.all digB && (w == [48] || (w != [] && w.getD 0 0 != 48))) := by
  unfold canonB
  rw [bs_data, trim_pos h]
/-- What a canonical word is. -/
theorem canon_cases {w : List UInt8} (h : canonB (bs w) = true) :
    (∃ ds, w = 45 :: ds ∧ (∀ c ∈ ds, digB c = true) ∧ ds ≠ [] ∧ ds.head? ≠ some 48) ∨ (w ≠ [] ∧ w.head? ≠ some 45 ∧ (∀ c ∈ w, digB c = true) ∧ (w = [48] ∨ w.head? ≠ some 48)) := by
  have hh : ∀ l : List UInt8, l ≠ [] → (l.getD 0 0 != 48) = true → l.head? ≠ some 48 := by
    intro l h0 h1 e
    cases l with
    | nil => exact h0 rfl
    | cons a b =>
      rw [List.head?_cons] at e
      injection e with e
      subst e
      simp at h1
  by_cases h45 : w.head? = some 45
  · cases w with
    | nil => cases h45
    | cons a ds =>
      rw [List.head?_cons] at h45
      injection h45 with e
      subst e
      rw [canon_neg] at h
      simp only [Bool.and_eq_true, List.all_eq_true] at h
      refine .inl ⟨ds, rfl, h.1, by simpa using h.2.1, hh ds (by simpa using h.2.1) h.2.2⟩
  · rw [canon_pos h45] at h
    simp only [Bool.and_eq_true, Bool.or_eq_true, List.all_eq_true] at h
    obtain ⟨h1, h2 | ⟨h2, h3⟩⟩ := h
    · have e : w = [48] := by simpa using h2
      exact .inr ⟨by rw [e]; simp, h45, h1, .inl e⟩
    · exact .inr ⟨by simpa using h2, h45, h1, .inr (hh w (by simpa using h2) h3)⟩

/-! ### value -/
def vspec (w : List UInt8) : Int × Bool :=
  if w.length > 11 then (0, false)
  else match w with
    | [] => (0, false)
    | c :: r => if c = 45 then (-(dv 0 r : Int), decide (dv 0 r ≤ 1000000000)) else ((dv 0 (c :: r) : Int), decide (dv 0 (c :: r) ≤ 1000000000))
theorem value_l (ds : List UInt8) (hl2 : ds.length ≤ 11) (sg : Int) (hsg : sg = 1 ∨ sg = -1) : ∀ (r : List UInt8) (i n : Nat), ds.drop i = r → i + r.length = ds.length → (∀ c ∈ r, digB c = true) → dv n r ≤ 1000000000000 →
    Ev (fun k => schismaref05_value.l0 k (bs ds) sg n i) (sg * (dv n r : Int), decide (dv n r ≤ 1000000000))
  | [], i, n, hd, hl, hc, hn => by
    refine Ev.step (f := fun _ => some (sg * (dv n [] : Int), decide (dv n [] ≤ 1000000000))) (fun k => ?_) (Ev.now _)
    rw [show dv n [] = n from rfl] at hn ⊢
    simp only [schismaref05_value.l0]
    rw [if_neg (by rw [bs_size]; simp at hl; omega)]
    have h1 : wrap64 (sg * (n : Int)) = sg * (n : Int) := by
      rcases hsg with rfl | rfl
      · rw [Int.one_mul]
        unfold wrap64; omega
      · rw [Int.neg_one_mul]
        unfold wrap64; omega
    rw [h1, show decide ((n : Int) ≤ 1000000000) = decide (n ≤ 1000000000) from decide_eq_decide.2 (by omega)]
  | c :: r, i, n, hd, hl, hc, hn => by
    obtain ⟨hlt, hd'⟩ := drop_lt hd
    have hcd := digN (hc c (List.mem_cons_self ..))
    rw [List.length_cons] at hl
    rw [show dv n (c :: r) = dv (n * 10 + (c.toNat - 48)) r from rfl] at hn ⊢
    have hnb := Nat.le_trans (dv_le r (n * 10 + (c.toNat - 48))) hn
    have hnext := value_l ds hl2 sg hsg r (i + 1) (n * 10 + (c.toNat - 48)) hd' (by omega) (fun x hx => hc x (List.mem_cons_of_mem _ hx)) hn
    have hb := bt_drop hd
    have e1 : wrap64 (wrap64 ((n : Int) * 10) + ((c.toNat : Int) - 48) % 256) = ((n * 10 + (c.toNat - 48) : Nat) : Int) := by
      have : wrap64 ((n : Int) * 10) = (n : Int) * 10 := by unfold wrap64; omega
      rw [this]
      unfold wrap64
      omega
    refine Ev.step (fun k => ?_) hnext
    simp only [schismaref05_value.l0]
    rw [if_pos (by rw [bs_size]; clear e1; omega), if_pos (by clear e1; omega), hb, e1, wr1 hlt (by clear e1; omega)]
theorem value_dv {ds : List UInt8} (hl : ds.length ≤ 11) (hd : ∀ c ∈ ds, digB c = true) : dv 0 ds ≤ 1000000000000 := by
  have h1 := dv_short ds 0 hd
  have h2 : 10 ^ ds.length ≤ 10 ^ 11 := Nat.pow_le_pow_right (by omega) hl
  have h3 : (10 : Nat) ^ 11 ≤ 1000000000000 := by simp
  rw [Nat.zero_add, Nat.one_mul] at h1
  exact Nat.le_trans (Nat.le_of_lt h1) (Nat.le_trans h2 h3)
theorem refValue {w : List UInt8} (h : canonB (bs w) = true) : Ev (fun k => schismaref05_value.f k (bs w)) (vspec w) := by
  by_cases hl : w.length > 11
  · refine Ev.congr (f := fun _ => some (vspec w)) (fun k => ?_) (Ev.now _)
    unfold schismaref05_value.f vspec
    rw [if_pos (by rw [bs_size]; omega), if_pos hl]
  · rcases canon_cases h with ⟨ds, rfl, hd, h0, hh⟩ | ⟨h0, h45, hd, _⟩
    · rw [List.length_cons] at hl
      have hv := value_l ds (by omega) (-1) (.inr rfl) ds 0 0 rfl (by omega) hd (value_dv (by omega) hd)
      have hb : bt (bs (45 :: ds)) ((0 : Nat) : Int) = ((45 : UInt8).toNat : Int) := bt_drop (l := 45 :: ds) (i := 0) (c := 45) (r := ds) rfl
      have hx : (bs (45 :: ds)).extract 1 (bs (45 :: ds)).size = bs ds := by
        rw [bs_extract, bs_size, List.drop_succ_cons, List.drop_zero, List.length_cons, Nat.add_sub_cancel, List.take_of_length_le (Nat.le_refl _)]
      unfold vspec
      rw [if_neg (by rw [List.length_cons]; omega)]
      simp only [if_true]
      have e : -(dv 0 ds : Int) = -1 * (dv 0 ds : Int) := by omega
      rw [e]
      have hv2 : Ev (fun k => schismaref05_value.j0 k (bs ds) (-1) 0) (-1 * (dv 0 ds : Int), decide (dv 0 ds ≤ 1000000000)) := Ev.step (fun k => by simp only [schismaref05_value.j0]; rfl) hv
      refine Ev.congr (fun k => ?_) hv2
      unfold schismaref05_value.f
      rw [if_neg (by rw [bs_size, List.length_cons]; omega), if_pos (by rw [bs_size, List.length_cons]; omega), hx]
      rw [show bt (bs (45 :: ds)) 0 = 45 from hb, if_pos rfl, if_pos (by rw [bs_size, List.length_cons]; omega)]
    · cases w with
      | nil => exact absurd rfl h0
      | cons c r =>
        have hv := value_l (c :: r) (by omega) 1 (.inl rfl) (c :: r) 0 0 rfl (by omega) hd (value_dv (by omega) hd)
        have hb : bt (bs (c :: r)) ((0 : Nat) : Int) = (c.toNat : Int) := bt_drop (l := c :: r) (i := 0) rfl
        have hc := digN (hd c (List.mem_cons_self ..))
        have hne : ¬ c = 45 := fun e => h45 (by rw [e]; rfl)
        unfold vspec
        rw [if_neg hl]
        simp only [if_neg hne]
        rw [Int.one_mul] at hv
        have hv2 : Ev (fun k => schismaref05_value.j0 k (bs (c :: r)) 1 0) ((dv 0 (c :: r) : Int), decide (dv 0 (c :: r) ≤ 1000000000)) := Ev.step (fun k => by simp only [schismaref05_value.j0]; rfl) hv
        refine Ev.congr (fun k => ?_) hv2
        unfold schismaref05_value.f
        rw [if_neg (by rw [bs_size]; omega), if_pos (by rw [bs_size, List.length_cons]; omega)]
        rw [show bt (bs (c :: r)) 0 = (c.toNat : Int) from hb, if_neg (by omega)]
theorem atoi_val {w : List UInt8} (h : canonB (bs w) = true) :
    (∃ x : Int, Lib.atoiAll w = .ok x ∧ ((fitB x = true ∧ vspec w = (x, true)) ∨ (fitB x = false ∧ (vspec w).2 = false))) ∨ (Lib.atoiAll w = .range ∧ (vspec w).2 = false) := by
  rcases canon_cases h with ⟨ds, rfl, hd, h0, hh⟩ | ⟨h0, h45, hd, hz⟩
  · have hp := parse_dv ds 0 (by omega) hd
    have hlong : 11 < (45 :: ds).length → 10000000000 ≤ dv 0 ds := fun hl => dv_long hd hh (by rw [List.length_cons] at hl; omega)
    have hv : (vspec (45 :: ds)) = if (45 :: ds).length > 11 then (0, false) else (-(dv 0 ds : Int), decide (dv 0 ds ≤ 1000000000)) := by
      unfold vspec
      simp only [if_true]
    generalize dv 0 ds = m at hp hlong hv
    have hm : Lib.parseMag ds = if m < 18446744073709551616 then .ok m else .range := by
      unfold Lib.parseMag
      rw [if_neg h0, hp]
    have hok : ∀ u, Lib.parseMag ds = .ok u → Lib.atoiAll (45 :: ds) = if 9223372036854775808 < u then .range else .ok (-(u : Int)) := by
      intro u hu
      unfold Lib.atoiAll
      simp only
      rw [if_pos (show (45 : UInt8).toNat = 43 ∨ (45 : UInt8).toNat = 45 from by decide), hu]
      simp
    have hrg : Lib.parseMag ds = .range → Lib.atoiAll (45 :: ds) = .range := by
      intro hu
      unfold Lib.atoiAll
      simp only
      rw [if_pos (show (45 : UInt8).toNat = 43 ∨ (45 : UInt8).toNat = 45 from by decide), hu]
    by_cases h1 : m < 18446744073709551616
    · have ha := hok m (by rw [hm, if_pos h1])
      by_cases h2 : 9223372036854775808 < m
      · rw [if_pos h2] at ha
        refine .inr ⟨ha, ?_⟩
        rw [hv]
        split
        · rfl
        · simp; omega
      · rw [if_neg h2] at ha
        refine .inl ⟨_, ha, ?_⟩
        by_cases h3 : m ≤ 1000000000
        · refine .inl ⟨fitB_true (by omega) (by omega), ?_⟩
          rw [hv, if_neg (fun hl => by have := hlong hl; omega), decide_eq_true h3]
        · refine .inr ⟨fitB_lo (by omega), ?_⟩
          rw [hv]
          split
          · rfl
          · simp; omega
    · have ha := hrg (by rw [hm, if_neg h1])
      refine .inr ⟨ha, ?_⟩
      rw [hv]
      split
      · rfl
      · simp; omega
  · have hp := parse_dv w 0 (by omega) hd
    have hlong : 11 < w.length → 10000000000 ≤ dv 0 w := fun hl => dv_long hd (by
      rcases hz with rfl | hz
      · simp at hl
      · exact hz) (by omega)
    have hv : vspec w = if w.length > 11 then (0, false) else ((dv 0 w : Int), decide (dv 0 w ≤ 1000000000)) := by
      unfold vspec
      cases w with
      | nil => exact absurd rfl h0
      | cons c r =>
        have hne : ¬ c = 45 := fun e => h45 (by rw [e]; rfl)
        simp only [if_neg hne]
    generalize dv 0 w = m at hp hlong hv
    have hm : Lib.parseMag w = if m < 18446744073709551616 then .ok m else .range := by
      unfold Lib.parseMag
      rw [if_neg h0, hp]
    have hok : ∀ u, Lib.parseMag w = .ok u → Lib.atoiAll w = if 9223372036854775808 ≤ u then .range else .ok (u : Int) := by
      intro u hu
      cases w with
      | nil => exact absurd rfl h0
      | cons c r =>
        have hc := digN (hd c (List.mem_cons_self ..))
        have h45' : ¬ c.toNat = 45 := by omega
        unfold Lib.atoiAll
        simp only
        rw [if_neg (by omega), hu]
        simp [h45']
    have hrg : Lib.parseMag w = .range → Lib.atoiAll w = .range := by
      intro hu
      cases w with
      | nil => exact absurd rfl h0
      | cons c r =>
        have hc := digN (hd c (List.mem_cons_self ..))
        unfold Lib.atoiAll
        simp only
        rw [if_neg (by omega), hu]
    by_cases h1 : m < 18446744073709551616
    · have ha := hok m (by rw [hm, if_pos h1])
      by_cases h2 : 9223372036854775808 ≤ m
      · rw [if_pos h2] at ha
        refine .inr ⟨ha, ?_⟩
        rw [hv]
        split
        · rfl
        · simp; omega
      · rw [if_neg h2] at ha
        refine .inl ⟨_, ha, ?_⟩
        by_cases h3 : m ≤ 1000000000
        · refine .inl ⟨fitB_true (by omega) (by omega), ?_⟩
          rw [hv, if_neg (fun hl => by have := hlong hl; omega), decide_eq_true h3]
        · refine .inr ⟨fitB_hi (by omega), ?_⟩
          rw [hv]
          split
          · rfl
          · simp; omega
    · have ha := hrg (by rw [hm, if_neg h1])
      refine .inr ⟨ha, ?_⟩
      rw [hv]
      split
      · rfl
      · simp; omega

/-! ### integer -/
def finI (ds : List UInt8) : Bool := match ds with | [] => false | [_] => true | c :: _ => c != 48
theorem int_l (ds : List UInt8) (hl2 : ds.length ≤ 200) : ∀ (r : List UInt8) (i : Nat), ds.drop i = r → i + r.length = ds.length →
    Ev (fun k => schismaref05_integer.l0 k (bs ds) i) (r.all digB && finI ds)
  | [], i, hd, hl => by
    refine Ev.step (f := fun _ => some (([] : List UInt8).all digB && finI ds)) (fun k => ?_) (Ev.now _)
    simp only [schismaref05_integer.l0]
    rw [if_neg (by rw [bs_size]; simp at hl; omega), bs_size, List.all_nil, Bool.true_and]
    unfold finI
    cases ds with
    | nil => rw [if_neg (by simp), if_neg (by simp)]
    | cons c t =>
      cases t with
      | nil => rw [if_pos (by simp)]
      | cons d t =>
        have hb : bt (bs (c :: d :: t)) ((0 : Nat) : Int) = (c.toNat : Int) := bt_drop (l := c :: d :: t) (i := 0) rfl
        rw [if_neg (by simp <;> omega), if_pos (by simp <;> omega), if_pos (by simp <;> omega)]
        rw [show bt (bs (c :: d :: t)) 0 = (c.toNat : Int) from hb]
        congr 1
        show ((c.toNat : Int) != 48) = (c != 48)
        by_cases hc : c = 48
        · subst hc; rfl
        · have h2 : ¬ ((c.toNat : Int) = 48) := fun e => hc (UInt8.toNat_inj.1 (by simpa using (by omega : c.toNat = 48)))
          rw [bne_iff_ne.2 hc, bne_iff_ne.2 h2]
  | c :: r, i, hd, hl => by
    obtain ⟨hlt, hd'⟩ := drop_lt hd
    rw [List.length_cons] at hl
    have hb := bt_drop hd
    rw [List.all_cons]
    cases hc : digB c with
    | false =>
      rw [Bool.false_and, Bool.false_and]
      refine Ev.step (f := fun _ => some false) (fun k => ?_) (Ev.now _)
      simp only [schismaref05_integer.l0]
      rw [if_pos (by rw [bs_size]; omega), if_pos (by omega), hb]
      have := digF hc
      by_cases h1 : (c.toNat : Int) < 48
      · rw [if_pos h1]
      · rw [if_neg h1, if_pos (by omega)]
    | true =>
      have hcd := digN hc
      rw [Bool.true_and]
      refine Ev.step (fun k => ?_) (int_l ds hl2 r (i + 1) hd' (by omega))
      simp only [schismaref05_integer.l0]
      rw [if_pos (by rw [bs_size]; omega), if_pos (by omega), hb, if_neg (by omega), if_neg (by omega), wr1 hlt (by omega)]
theorem int_j1 (ds : List UInt8) (hl2 : ds.length ≤ 200) : Ev (fun k => schismaref05_integer.j1 k (bs ds)) (ds.all digB && finI ds) :=
  Ev.step (fun k => by simp only [schismaref05_integer.j1]; rfl) (int_l ds hl2 ds 0 rfl (by omega))
theorem refInt {w : List UInt8} (hl : w.length ≤ 200) : Ev (fun k => schismaref05_integer.f k (bs w)) (canonB (bs w)) := by
  cases w with
  | nil =>
    have e : canonB (bs []) = (([] : List UInt8).all digB && finI []) := by rw [canon_pos (by simp)]; rfl
    rw [e]
    have h := int_j1 [] (by simp)
    have h2 : Ev (fun k => schismaref05_integer.j0 k (bs []) false) (([] : List UInt8).all digB && finI []) := Ev.step (fun k => by simp only [schismaref05_integer.j0]; rw [if_neg (by decide)]) h
    refine Ev.congr (fun k => ?_) h2
    unfold schismaref05_integer.f
    rw [if_neg (by rw [bs_size]; simp)]
  | cons c r =>
    cases r with
    | nil =>
      have e : canonB (bs [c]) = ([c].all digB && finI [c]) := by
        by_cases h45 : c = 45
        · subst h45
          rw [canon_neg]
          rfl
        · rw [canon_pos (by simp; exact h45)]
          cases hd : digB c
          · simp [hd]
          · simp only [List.all_cons, hd, List.all_nil, finI, Bool.and_true]
            by_cases h48 : c = 48
            · subst h48; rfl
            · simp [h48]
      rw [e]
      have h := int_j1 [c] (by simp)
      have h2 : Ev (fun k => schismaref05_integer.j0 k (bs [c]) false) ([c].all digB && finI [c]) := Ev.step (fun k => by simp only [schismaref05_integer.j0]; rw [if_neg (by decide)]) h
      refine Ev.congr (fun k => ?_) h2
      unfold schismaref05_integer.f
      rw [if_neg (by rw [bs_size]; simp)]
    | cons d r =>
      have hb : bt (bs (c :: d :: r)) ((0 : Nat) : Int) = (c.toNat : Int) := bt_drop (l := c :: d :: r) (i := 0) rfl
      have hb' : bt (bs (c :: d :: r)) 0 = (c.toNat : Int) := hb
      by_cases h45 : c = 45
      · subst h45
        rw [canon_neg]
        have hx : (bs (45 :: d :: r)).extract 1 (bs (45 :: d :: r)).size = bs (d :: r) := by
          rw [bs_extract, bs_size, List.drop_succ_cons, List.drop_zero, List.length_cons, Nat.add_sub_cancel, List.take_of_length_le (Nat.le_refl _)]
        have hbd : bt (bs (d :: r)) ((0 : Nat) : Int) = (d.toNat : Int) := bt_drop (l := d :: r) (i := 0) rfl
        have hbd' : bt (bs (d :: r)) 0 = (d.toNat : Int) := hbd
        have hu : ∀ k, schismaref05_integer.f k (bs (45 :: d :: r)) = schismaref05_integer.j0 k (bs (45 :: d :: r)) true := by
          intro k
          unfold schismaref05_integer.f
          rw [if_pos (by rw [bs_size]; simp <;> omega), if_pos (by rw [bs_size]; simp <;> omega), hb']
          rfl
        by_cases h48 : d = 48
        · subst h48
          have e : ((48 :: r).all digB && ((48 :: r : List UInt8) != [] && (48 :: r : List UInt8).getD 0 0 != 48)) = false := by simp
          rw [e]
          refine Ev.congr hu ?_
          refine Ev.step (f := fun _ => some false) (fun k => ?_) (Ev.now _)
          simp only [schismaref05_integer.j0]
          rw [if_pos trivial, if_pos (by rw [bs_size]; simp <;> omega), hx, if_pos (by rw [bs_size]; simp <;> omega), hbd', if_pos (by decide)]
        · have e : ((d :: r).all digB && ((d :: r : List UInt8) != [] && (d :: r : List UInt8).getD 0 0 != 48)) = ((d :: r).all digB && finI (d :: r)) := by
            congr 1
            have : (d != 48) = true := bne_iff_ne.2 h48
            cases r with
            | nil => simp [finI, h48]
            | cons y z => simp [finI, h48]
          rw [e]
          have h := int_j1 (d :: r) (by simp at hl ⊢; omega)
          refine Ev.congr hu ?_
          refine Ev.step (fun k => ?_) h
          simp only [schismaref05_integer.j0]
          have h2 : ¬ ((d.toNat : Int) = 48) := fun e => h48 (UInt8.toNat_inj.1 (by simpa using (by omega : d.toNat = 48)))
          rw [if_pos trivial, if_pos (by rw [bs_size]; simp <;> omega), hx, if_pos (by rw [bs_size]; simp <;> omega), hbd', if_neg h2]
      · rw [canon_pos (by simp; exact h45)]
        have e : ((c :: d :: r).all digB && ((c :: d :: r) == [48] || ((c :: d :: r) != [] && (c :: d :: r).getD 0 0 != 48))) = ((c :: d :: r).all digB && finI (c :: d :: r)) := by
          have g1 : ((c :: d :: r : List UInt8) == [48]) = false := by simp
          have g2 : ((c :: d :: r : List UInt8) != []) = true := rfl
          rw [g1, g2, Bool.false_or, Bool.true_and]
          rfl
        rw [e]
        have h := int_j1 (c :: d :: r) hl
        have h2 : Ev (fun k => schismaref05_integer.j0 k (bs (c :: d :: r)) false) ((c :: d :: r).all digB && finI (c :: d :: r)) := Ev.step (fun k => by simp only [schismaref05_integer.j0]; rw [if_neg (by decide)]) h
        refine Ev.congr (fun k => ?_) h2
        have hne : ((c.toNat : Int) == 45) = false := by
          rw [beq_eq_false_iff_ne]
          intro e
          exact h45 (UInt8.toNat_inj.1 (by simpa using (by omega : c.toNat = 45)))
        unfold schismaref05_integer.f
        rw [if_pos (by rw [bs_size]; simp <;> omega), if_pos (by rw [bs_size]; simp <;> omega), hb', hne]

/-! ### the words of a text -/
theorem ib_none : ∀ (w : List UInt8), (∀ c ∈ w, c ≠ 32) → Lib.indexByte w 32 = -1
  | [], _ => rfl
  | b :: w, h => by
    have hb := h b (List.mem_cons_self ..)
    have ih := ib_none w (fun c hc => h c (List.mem_cons_of_mem _ hc))
    unfold Lib.indexByte
    rw [if_neg (by simpa using hb), ih]
    rfl
theorem ib_hit : ∀ (w rest : List UInt8), (∀ c ∈ w, c ≠ 32) → Lib.indexByte (w ++ 32 :: rest) 32 = (w.length : Int)
  | [], rest, _ => by
    simp [Lib.indexByte]
  | b :: w, rest, h => by
    have hb := h b (List.mem_cons_self ..)
    have ih := ib_hit w rest (fun c hc => h c (List.mem_cons_of_mem _ hc))
    rw [List.cons_append]
    unfold Lib.indexByte
    rw [if_neg (by simpa using hb), ih, if_neg (by simp)]
    simp
theorem join_cons (w v : List UInt8) (ws : List (List UInt8)) : Lib.join (w :: v :: ws) [32] = w ++ 32 :: Lib.join (v :: ws) [32] := by
  unfold Lib.join
  rw [List.intercalate, List.intersperse_cons_cons]
  simp [List.intercalate]
theorem join_one (w : List UInt8) : Lib.join [w] [32] = w := by
  simp [Lib.join, List.intercalate]
theorem split_join : ∀ (ws : List (List UInt8)), ws ≠ [] → (∀ w ∈ ws, ∀ c ∈ w, c ≠ 32) →
    Lib.count (Lib.join ws [32]) [32] + 1 = ws.length ∧ Lib.splitK [32] 0 (Lib.count (Lib.join ws [32]) [32]) (Lib.join ws [32]) = ws
  | [], h, _ => absurd rfl h
  | [w], _, h => by
    rw [join_one]
    have hi : Lib.index w [32] = -1 := by rw [Lib.index_one]; exact ib_none w (h w (List.mem_cons_self ..))
    rw [Lib.count_miss hi]
    exact ⟨rfl, rfl⟩
  | w :: v :: ws, _, h => by
    rw [join_cons]
    obtain ⟨h1, h2⟩ := split_join (v :: ws) (by simp) (fun x hx => h x (List.mem_cons_of_mem _ hx))
    generalize Lib.join (v :: ws) [32] = J at h1 h2 ⊢
    have hi : Lib.index (w ++ 32 :: J) [32] = (w.length : Int) := by rw [Lib.index_one]; exact ib_hit w J (h w (List.mem_cons_self ..))
    have hd : (w ++ 32 :: J).drop (w.length + 1) = J := by
      rw [List.drop_append, List.drop_eq_nil_of_le (by omega)]
      simp
    have hc : Lib.count (w ++ 32 :: J) [32] = 1 + Lib.count J [32] := by
      rw [Lib.count_hit (by simp) hi]
      rw [show ([32] : List UInt8).length = 1 from rfl, hd]
    rw [hc]
    refine ⟨by simp only [List.length_cons] at h1 ⊢; omega, ?_⟩
    rw [Nat.add_comm 1]
    unfold Lib.splitK
    rw [hi, if_neg (by simp), Int.toNat_natCast, Nat.add_zero, show ([32] : List UInt8).length = 1 from rfl, hd, h2]
    simp
theorem split_eq (ws : List (List UInt8)) (h0 : ws ≠ []) (h : ∀ w ∈ ws, ∀ c ∈ w, c ≠ 32) (hl : (Lib.join ws [32]).length ≤ 100000) (hw : ws.length ≤ 1000) :
    strings_Split.f (bs (Lib.join ws [32])) (⟨#[32]⟩ : ByteArray) = some (ws.map bs) := by
  obtain ⟨h1, h2⟩ := split_join ws h0 h
  have hc : Lib.countB (bs (Lib.join ws [32])) ⟨#[32]⟩ = Lib.count (Lib.join ws [32]) [32] := by
    unfold Lib.countB
    rw [bs_data]
  have hs : Lib.splitB ⟨#[32]⟩ 0 (Lib.countB (bs (Lib.join ws [32])) ⟨#[32]⟩) (bs (Lib.join ws [32])) = ws.map bs := by
    have hd := Lib.splitB_data ⟨#[32]⟩ 0 (Lib.countB (bs (Lib.join ws [32])) ⟨#[32]⟩) (bs (Lib.join ws [32]))
    rw [bs_data, hc] at hd
    have hd' : (Lib.splitB ⟨#[32]⟩ 0 (Lib.count (Lib.join ws [32]) [32]) (bs (Lib.join ws [32]))).map (fun b => b.data.toList) = ws := hd.trans h2
    rw [hc]
    generalize Lib.splitB ⟨#[32]⟩ 0 (Lib.count (Lib.join ws [32]) [32]) (bs (Lib.join ws [32])) = L at hd'
    rw [← hd', List.map_map]
    conv => lhs; rw [← List.map_id L]
    apply List.map_congr_left
    intro b _
    exact (bs_of b).symm
  unfold strings_Split.f
  rw [hs, hc, if_pos]
  exact ⟨by rw [bs_size]; omega, by decide, by rw [List.length_map]; omega, by omega⟩
/-- Every text is words, joined by spaces. -/
theorem words_of : ∀ (b : List UInt8), ∃ ws, ws ≠ [] ∧ (∀ w ∈ ws, ∀ c ∈ w, c ≠ 32) ∧ Lib.join ws [32] = b ∧ ws.length ≤ b.length + 1 ∧ ∀ w ∈ ws, w.length ≤ b.length
  | [] => ⟨[[]], by simp, by simp, join_one [], by simp, by simp⟩
  | c :: b => by
    obtain ⟨ws, h0, h1, h2, h3, h4⟩ := words_of b
    by_cases hc : c = 32
    · subst hc
      cases ws with
      | nil => exact absurd rfl h0
      | cons w ws =>
        refine ⟨[] :: w :: ws, by simp, ?_, by rw [join_cons, h2]; rfl, by simp only [List.length_cons] at h3 ⊢; omega, ?_⟩
        · intro x hx
          rcases List.mem_cons.1 hx with rfl | hx
          · simp
          · exact h1 x hx
        · intro x hx
          rcases List.mem_cons.1 hx with rfl | hx
          · simp
          · have := h4 x hx
            rw [List.length_cons]
            omega
    · cases ws with
      | nil => exact absurd rfl h0
      | cons w ws =>
        refine ⟨(c :: w) :: ws, by simp, ?_, ?_, by simp only [List.length_cons] at h3 ⊢; omega, ?_⟩
        · intro x hx
          rcases List.mem_cons.1 hx with rfl | hx
          · intro y hy
            rcases List.mem_cons.1 hy with rfl | hy
            · exact hc
            · exact h1 w (List.mem_cons_self ..) y hy
          · exact h1 x (List.mem_cons_of_mem _ hx)
        · cases ws with
          | nil =>
            rw [join_one] at h2 ⊢
            rw [h2]
          | cons v ws =>
            rw [join_cons] at h2 ⊢
            rw [← h2]
            rfl
        · intro x hx
          rcases List.mem_cons.1 hx with rfl | hx
          · have := h4 w (List.mem_cons_self ..)
            simp only [List.length_cons]
            omega
          · have := h4 x (List.mem_cons_of_mem _ hx)
            rw [List.length_cons]
            omega
/-- What stands from a word on. -/
def rest (e : UInt8) : List (List UInt8) → List UInt8
  | [] => []
  | [w] => w ++ [e]
  | w :: v :: ws => w ++ 32 :: rest e (v :: ws)
theorem join_rest (e : UInt8) : ∀ (ws : List (List UInt8)), ws ≠ [] → Lib.join ws [32] ++ [e] = rest e ws
  | [], h => absurd rfl h
  | [w], _ => by rw [join_one]; rfl
  | w :: v :: ws, _ => by
    rw [join_cons]
    show _ = w ++ 32 :: rest e (v :: ws)
    rw [← join_rest e (v :: ws) (by simp)]
    simp
theorem rest_cons (e : UInt8) (w : List UInt8) (ws : List (List UInt8)) : rest e (w :: ws) = w ++ (if ws = [] then e else 32) :: rest e ws := by
  cases ws with
  | nil => rfl
  | cons v ws => rfl

/-! ### the answer -/
def res (ket : Bool) : List Int → Bool → List (List UInt8) → List Int × Bool × Int
  | acc, lim, [] => if lim = true then ([], false, 4) else if (acc.length : Int) > 64 then ([], false, 4) else (acc, ket, 0)
  | acc, lim, w :: ws => if canonB (bs w) = true then res ket (acc ++ [(vspec w).1]) (lim || !(vspec w).2) ws else ([], false, 15)
def rres (ket : Bool) : List Int → List (List UInt8) → List Int × Bool × Int
  | acc, [] => if chk acc = 0 then (acc, ket, 0) else ([], false, chk acc)
  | acc, w :: ws => match Lib.atoiAll w with
    | .ok v => rres ket (acc ++ [v]) ws
    | _ => ([], false, 4)
theorem res_bad (ket : Bool) : ∀ (ws : List (List UInt8)) (acc : List Int) (lim : Bool), (∃ w ∈ ws, canonB (bs w) = false) → res ket acc lim ws = ([], false, 15)
  | [], acc, lim, h => by obtain ⟨w, hw, _⟩ := h; cases hw
  | w :: ws, acc, lim, h => by
    unfold res
    cases hc : canonB (bs w) with
    | false => rw [if_neg (by decide)]
    | true =>
      rw [if_pos rfl]
      apply res_bad
      obtain ⟨x, hx, hf⟩ := h
      rcases List.mem_cons.1 hx with rfl | hx
      · rw [hc] at hf; cases hf
      · exact ⟨x, hx, hf⟩
theorem res_lim (ket : Bool) : ∀ (ws : List (List UInt8)) (acc : List Int), (∀ w ∈ ws, canonB (bs w) = true) → res ket acc true ws = ([], false, 4)
  | [], acc, h => by unfold res; rw [if_pos rfl]
  | w :: ws, acc, h => by
    unfold res
    rw [if_pos (h w (List.mem_cons_self ..)), Bool.true_or]
    exact res_lim ket ws _ (fun x hx => h x (List.mem_cons_of_mem _ hx))
theorem rres_res (ket : Bool) : ∀ (ws : List (List UInt8)) (a b : List Int) (lim : Bool), (∀ w ∈ ws, canonB (bs w) = true) →
    ((lim = false ∧ a = b ∧ ∀ x ∈ a, fitB x = true) ∨ (lim = true ∧ ∃ x ∈ a, fitB x = false)) → rres ket a ws = res ket b lim ws
  | [], a, b, lim, _, h => by
    unfold rres res
    rcases h with ⟨rfl, rfl, hf⟩ | ⟨rfl, x, hx, hf⟩
    · rw [if_neg (show ¬ (false = true) by decide)]
      by_cases hl : a.length ≤ 64
      · have : chk a = 0 := by
          unfold chk
          rw [if_pos ⟨hl, List.all_eq_true.2 hf⟩]
        rw [this, if_pos rfl, if_neg (by omega)]
      · have : chk a = 4 := by
          unfold chk
          rw [if_neg (fun h => hl h.1)]
        rw [this, if_neg (show ¬ ((4 : Int) = 0) by decide), if_pos (by omega)]
    · rw [if_pos rfl]
      have : chk a = 4 := by
        unfold chk
        rw [if_neg]
        intro h
        have := List.all_eq_true.1 h.2 x hx
        rw [hf] at this
        cases this
      rw [this, if_neg (show ¬ ((4 : Int) = 0) by decide)]
  | w :: ws, a, b, lim, hc, h => by
    have hcw := hc w (List.mem_cons_self ..)
    have hcs : ∀ x ∈ ws, canonB (bs x) = true := fun x hx => hc x (List.mem_cons_of_mem _ hx)
    unfold rres res
    rw [if_pos hcw]
    rcases atoi_val hcw with ⟨x, ha, hv⟩ | ⟨ha, hv⟩
    · rw [ha]
      simp only
      rcases hv with ⟨hf, hv⟩ | ⟨hf, hv⟩
      · rw [hv]
        simp only [Bool.not_true, Bool.or_false]
        apply rres_res ket ws _ _ lim hcs
        rcases h with ⟨h1, h2, h3⟩ | ⟨h1, y, hy, h3⟩
        · refine .inl ⟨h1, by rw [h2], ?_⟩
          intro z hz
          rcases List.mem_append.1 hz with hz | hz
          · exact h3 z hz
          · rw [List.mem_singleton.1 hz]; exact hf
        · exact .inr ⟨h1, y, List.mem_append_left _ hy, h3⟩
      · rw [hv]
        simp only [Bool.not_false, Bool.or_true]
        apply rres_res ket ws _ _ true hcs
        exact .inr ⟨rfl, x, List.mem_append_right _ (List.mem_singleton.2 rfl), hf⟩
    · rw [ha, hv]
      simp only [Bool.not_false, Bool.or_true]
      exact (res_lim ket ws _ hcs).symm

/-! ### the reference's Parse -/
def endL (A : List UInt8) (acc : List Int) (lim ket : Bool) : Option (List Int × Bool × Int) := if lim = true then some ([], false, 4) else if (acc.length : Int) > 64 then some ([], false, 4) else some (acc, ket, 0)
theorem bt0 {a : UInt8} {t : List UInt8} : bt (bs (a :: t)) 0 = (a.toNat : Int) := bt_drop (l := a :: t) (i := 0) rfl
theorem eq91 (a : UInt8) : ((a.toNat : Int) == 91) = (a == 91) := by
  by_cases h : a = 91
  · subst h; rfl
  · have : ¬ ((a.toNat : Int) = 91) := fun e => h (UInt8.toNat_inj.1 (by simpa using (by omega : a.toNat = 91)))
    rw [beq_eq_false_iff_ne.2 h, beq_eq_false_iff_ne.2 this]
theorem wm1 {n : Nat} (h : n ≤ 200) (h0 : 1 ≤ n) : wrap64 ((n : Int) - 1) = ((n - 1 : Nat) : Int) := by
  unfold wrap64
  omega
theorem scan {A : List UInt8} {hl : A.length ≤ 200} (h2 : 2 < A.length) {acc : List Int} {lim : Bool} {p : Nat} {w tl : List UInt8} {c : UInt8} (hd : A.drop p = w ++ c :: tl) (hw : ∀ x ∈ w, x ≠ 32) {R : List Int × Bool × Int}
    (hend : Ev (fun k => schismaref05_Parse.l0 k (bs A) acc (A.length : Int) lim (p : Int) ((p + w.length : Nat) : Int)) R) : ∀ (d j : Nat), w.length - j = d → j ≤ w.length →
    Ev (fun k => schismaref05_Parse.l0 k (bs A) acc (A.length : Int) lim (p : Int) ((p + j : Nat) : Int)) R
  | 0, j, hj, hle => by
    obtain rfl : j = w.length := by omega
    exact hend
  | d + 1, j, hj, hle => by
    have ih := scan (hl := hl) h2 hd hw hend d (j + 1) (by omega) (by omega)
    have hlt : j < w.length := by omega
    have hdj : A.drop (p + j) = w[j] :: (w.drop (j + 1) ++ c :: tl) := by
      rw [← List.drop_drop, hd, List.drop_append_of_le_length (by omega), List.drop_eq_getElem_cons hlt]
      rfl
    have hb := bt_drop hdj
    have hpj := drop_lt hdj
    have hlen : A.length - (p + j) = (w.length - j) + 1 + tl.length := by
      have := congrArg List.length hdj
      rw [List.length_drop, List.length_cons, List.length_append, List.length_drop, List.length_cons] at this
      omega
    have hne : ¬ ((w[j].toNat : Int) = 32) := fun e => hw _ (List.getElem_mem hlt) (UInt8.toNat_inj.1 (by simpa using (by omega : w[j].toNat = 32)))
    refine Ev.step (fun k => ?_) (Ev.step (f := fun k => schismaref05_Parse.j3 k (bs A) acc (A.length : Int) lim (p : Int) ((p + j : Nat) : Int) true) (g := fun k => schismaref05_Parse.j2 k (bs A) acc (A.length : Int) lim (p : Int) ((p + j : Nat) : Int) true) (fun k => ?_) (Ev.step (f := fun k => schismaref05_Parse.l0 k (bs A) acc (A.length : Int) lim (p : Int) ((p + (j + 1) : Nat) : Int)) (fun k => ?_) ih))
    · simp only [schismaref05_Parse.l0]
      rw [if_pos (by omega), decide_eq_true (by omega : (A.length : Int) > 2)]
    · simp only [schismaref05_Parse.j2]
      rw [if_pos trivial, if_pos (by omega), if_pos (by rw [bs_size]; omega), hb, if_neg hne, wm1 (by omega) (by omega), decide_eq_true (by omega)]
    · simp only [schismaref05_Parse.j3]
      rw [if_pos trivial, wr1 (n := 300) (by omega) (by omega)]
      rfl
theorem refparse_l {a : UInt8} {t : List UInt8} (e : UInt8) (he : e ≠ 32) (hl : (a :: t).length ≤ 200) (h2 : 2 < (a :: t).length) : ∀ (ws : List (List UInt8)) (acc : List Int) (lim : Bool) (p : Nat), (a :: t).drop p = rest e ws → 1 ≤ p → p ≤ (a :: t).length → acc.length ≤ p → (∀ w ∈ ws, ∀ c ∈ w, c ≠ 32) →
    Ev (fun k => schismaref05_Parse.l0 k (bs (a :: t)) acc ((a :: t).length : Int) lim (p : Int) (p : Int)) (res (a == 91) acc lim ws)
  | [], acc, lim, p, hd, hp, hpl, ha, hw => by
    have hpe : p = (a :: t).length := by have := drop_nil hd; omega
    refine Ev.step (f := fun k => schismaref05_Parse.j2 k (bs (a :: t)) acc ((a :: t).length : Int) lim (p : Int) (p : Int) false) (fun k => ?_) (Ev.step (f := fun _ => some (res (a == 91) acc lim [])) (fun k => ?_) (Ev.now _))
    · simp only [schismaref05_Parse.l0]
      rw [if_neg (by omega)]
    · simp only [schismaref05_Parse.j2]
      unfold res
      rw [if_neg (by decide)]
      by_cases h1 : lim = true
      · rw [if_pos h1, if_pos h1]
      · rw [if_neg h1, if_neg h1]
        by_cases h3 : (acc.length : Int) > 64
        · rw [if_pos h3, if_pos h3]
        · rw [if_neg h3, if_neg h3, if_pos (by rw [bs_size, List.length_cons]; omega), bt0, eq91]
  | w :: ws, acc, lim, p, hd, hp, hpl, ha, hw => by
    generalize hA : a :: t = A at *
    rw [rest_cons] at hd
    have hww := hw w (List.mem_cons_self ..)
    have hwl : w.length ≤ A.length := by
      have := congrArg List.length hd
      rw [List.length_drop, List.length_append, List.length_cons] at this
      omega
    have hlen : A.length - p = w.length + 1 + (rest e ws).length := by
      have := congrArg List.length hd
      rw [List.length_drop, List.length_append, List.length_cons] at this
      omega
    have hdj : A.drop (p + w.length) = (if ws = [] then e else 32) :: rest e ws := by
      rw [← List.drop_drop, hd, List.drop_left]
    have hdn := (drop_lt hdj).2
    have hex : (bs A).extract p (p + w.length) = bs w := by
      rw [bs_extract, Nat.add_sub_cancel_left, hd, List.take_left]
    have hb := bt_drop hdj
    have hint := refInt (w := w) (by omega)
    have hend : Ev (fun k => schismaref05_Parse.l0 k (bs A) acc (A.length : Int) lim (p : Int) ((p + w.length : Nat) : Int)) (res (a == 91) acc lim (w :: ws)) := by
      have hj3 : Ev (fun k => schismaref05_Parse.j3 k (bs A) acc (A.length : Int) lim (p : Int) ((p + w.length : Nat) : Int) false) (res (a == 91) acc lim (w :: ws)) := by
        unfold res
        cases hc : canonB (bs w) with
        | false =>
          rw [if_neg (by decide)]
          rw [hc] at hint
          have hB := Ev.bind hint (f := fun k t172 => (if t172 = true then ((schismaref05_value.f k (bs w)).bind fun bt173 => (if lim = true then (if acc.length < 17592186044416 then (schismaref05_Parse.l0 k (bs A) (acc ++ [bt173.1]) (A.length : Int) true (wrap64 (((p + w.length : Nat) : Int) + 1)) (wrap64 (((p + w.length : Nat) : Int) + 1))) else (none)) else (if acc.length < 17592186044416 then (schismaref05_Parse.l0 k (bs A) (acc ++ [bt173.1]) (A.length : Int) (!bt173.2) (wrap64 (((p + w.length : Nat) : Int) + 1)) (wrap64 (((p + w.length : Nat) : Int) + 1))) else (none)))) else (some (([] : List Int), false, 15)))) (r := (([] : List Int), false, (15 : Int))) (by
            refine Ev.congr (fun k => ?_) (Ev.now _)
            rw [if_neg (by decide)])
          refine Ev.step (fun k => ?_) hB
          simp only [schismaref05_Parse.j3]
          rw [if_neg (by decide), if_pos (by omega), if_pos (by omega), if_pos (by rw [bs_size]; omega), Int.toNat_natCast, Int.toNat_natCast, hex]
        | true =>
          rw [if_pos rfl]
          rw [hc] at hint
          have hval := refValue hc
          have hn : Ev (fun k => schismaref05_Parse.l0 k (bs A) (acc ++ [(vspec w).1]) (A.length : Int) (lim || !(vspec w).2) ((p + w.length + 1 : Nat) : Int) ((p + w.length + 1 : Nat) : Int)) (res (a == 91) (acc ++ [(vspec w).1]) (lim || !(vspec w).2) ws) := by
            subst hA
            exact refparse_l e he hl h2 ws _ _ (p + w.length + 1) hdn (by omega) (by omega) (by rw [List.length_append, List.length_singleton]; omega) (fun x hx => hw x (List.mem_cons_of_mem _ hx))
          have hB2 := Ev.bind hval (f := fun k bt173 => (if lim = true then (if acc.length < 17592186044416 then (schismaref05_Parse.l0 k (bs A) (acc ++ [bt173.1]) (A.length : Int) true (wrap64 (((p + w.length : Nat) : Int) + 1)) (wrap64 (((p + w.length : Nat) : Int) + 1))) else (none)) else (if acc.length < 17592186044416 then (schismaref05_Parse.l0 k (bs A) (acc ++ [bt173.1]) (A.length : Int) (!bt173.2) (wrap64 (((p + w.length : Nat) : Int) + 1)) (wrap64 (((p + w.length : Nat) : Int) + 1))) else (none)))) (r := res (a == 91) (acc ++ [(vspec w).1]) (lim || !(vspec w).2) ws) (by
            refine Ev.congr (fun k => ?_) hn
            rw [wr1 (n := 300) (by omega) (by omega)]
            cases lim with
            | true => rw [if_pos rfl, if_pos (by omega), Bool.true_or]
            | false => rw [if_neg (by decide), if_pos (by omega), Bool.false_or])
          have hB := Ev.bind hint (f := fun k t172 => (if t172 = true then ((schismaref05_value.f k (bs w)).bind fun bt173 => (if lim = true then (if acc.length < 17592186044416 then (schismaref05_Parse.l0 k (bs A) (acc ++ [bt173.1]) (A.length : Int) true (wrap64 (((p + w.length : Nat) : Int) + 1)) (wrap64 (((p + w.length : Nat) : Int) + 1))) else (none)) else (if acc.length < 17592186044416 then (schismaref05_Parse.l0 k (bs A) (acc ++ [bt173.1]) (A.length : Int) (!bt173.2) (wrap64 (((p + w.length : Nat) : Int) + 1)) (wrap64 (((p + w.length : Nat) : Int) + 1))) else (none)))) else (some (([] : List Int), false, 15)))) (r := res (a == 91) (acc ++ [(vspec w).1]) (lim || !(vspec w).2) ws) (by
            refine Ev.congr (fun k => ?_) hB2
            rw [if_pos rfl])
          refine Ev.step (fun k => ?_) hB
          simp only [schismaref05_Parse.j3]
          rw [if_neg (by decide), if_pos (by omega), if_pos (by omega), if_pos (by rw [bs_size]; omega), Int.toNat_natCast, Int.toNat_natCast, hex]
      have hj2 : Ev (fun k => schismaref05_Parse.j2 k (bs A) acc (A.length : Int) lim (p : Int) ((p + w.length : Nat) : Int) true) (res (a == 91) acc lim (w :: ws)) := by
        refine Ev.step (fun k => ?_) hj3
        simp only [schismaref05_Parse.j2]
        rw [if_pos trivial, if_pos (by omega), if_pos (by rw [bs_size]; omega), hb]
        by_cases hws : ws = []
        · subst hws
          have hr : (rest e []).length = 0 := rfl
          have hne : ¬ ((e.toNat : Int) = 32) := fun e' => he (UInt8.toNat_inj.1 (by simpa using (by omega : e.toNat = 32)))
          rw [if_pos rfl, if_neg hne, wm1 (by omega) (by omega), decide_eq_false (by omega)]
        · rw [if_neg hws, if_pos (by decide)]
      refine Ev.step (fun k => ?_) hj2
      simp only [schismaref05_Parse.l0]
      rw [if_pos (by omega), decide_eq_true (by omega : (A.length : Int) > 2)]
    exact scan (hl := hl) h2 hd hww hend w.length 0 (by omega) (by omega)

/-! ### the answer of a text -/
/-- What Parse answers. -/
def ans (L : List UInt8) (R : List Int × Bool × Int) : Prop :=
  (∃ (m : List UInt8), L = 91 :: (m ++ [62]) ∧ ((m = [] ∧ R = ([], true, 0)) ∨ (m ≠ [] ∧ ∃ ws, ws ≠ [] ∧ (∀ w ∈ ws, ∀ c ∈ w, c ≠ 32) ∧ Lib.join ws [32] = m ∧ ws.length ≤ m.length + 1 ∧ (∀ w ∈ ws, w.length ≤ m.length) ∧ R = res true [] false ws))) ∨
  (∃ (m : List UInt8), L = 60 :: (m ++ [93]) ∧ ((m = [] ∧ R = ([], false, 0)) ∨ (m ≠ [] ∧ ∃ ws, ws ≠ [] ∧ (∀ w ∈ ws, ∀ c ∈ w, c ≠ 32) ∧ Lib.join ws [32] = m ∧ ws.length ≤ m.length + 1 ∧ (∀ w ∈ ws, w.length ≤ m.length) ∧ R = res false [] false ws))) ∨
  ((∀ m : List UInt8, L ≠ 91 :: (m ++ [62])) ∧ (∀ m : List UInt8, L ≠ 60 :: (m ++ [93])) ∧ R = ([], false, 15))
theorem ans_ex (L : List UInt8) : ∃ R, ans L R := by
  by_cases h1 : ∃ m : List UInt8, L = 91 :: (m ++ [62])
  · obtain ⟨m, hm⟩ := h1
    by_cases h0 : m = []
    · exact ⟨_, .inl ⟨m, hm, .inl ⟨h0, rfl⟩⟩⟩
    · obtain ⟨ws, g0, g1, g2, g3, g4⟩ := words_of m
      exact ⟨_, .inl ⟨m, hm, .inr ⟨h0, ws, g0, g1, g2, g3, g4, rfl⟩⟩⟩
  · by_cases h2 : ∃ m : List UInt8, L = 60 :: (m ++ [93])
    · obtain ⟨m, hm⟩ := h2
      by_cases h0 : m = []
      · exact ⟨_, .inr (.inl ⟨m, hm, .inl ⟨h0, rfl⟩⟩)⟩
      · obtain ⟨ws, g0, g1, g2, g3, g4⟩ := words_of m
        exact ⟨_, .inr (.inl ⟨m, hm, .inr ⟨h0, ws, g0, g1, g2, g3, g4, rfl⟩⟩)⟩
    · exact ⟨_, .inr (.inr ⟨fun m hm => h1 ⟨m, hm⟩, fun m hm => h2 ⟨m, hm⟩, rfl⟩)⟩
theorem ref_ok (a e : UInt8) (he : e ≠ 32) (m : List UInt8) (hl : (a :: (m ++ [e])).length ≤ 200) {R : List Int × Bool × Int} (hR : (m = [] ∧ R = ([], a == 91, 0)) ∨ (m ≠ [] ∧ ∃ ws, ws ≠ [] ∧ (∀ w ∈ ws, ∀ c ∈ w, c ≠ 32) ∧ Lib.join ws [32] = m ∧ ws.length ≤ m.length + 1 ∧ (∀ w ∈ ws, w.length ≤ m.length) ∧ R = res (a == 91) [] false ws)) :
    Ev (fun k => schismaref05_Parse.j0 k (bs (a :: (m ++ [e]))) ([] : List Int) ((a :: (m ++ [e])).length : Int) false) R := by
  rcases hR with ⟨rfl, rfl⟩ | ⟨h0, ws, g0, g1, g2, g3, g4, rfl⟩
  · refine Ev.step (f := fun k => schismaref05_Parse.l0 k (bs [a, e]) [] 2 false 1 1) (fun k => ?_) (Ev.step (f := fun k => schismaref05_Parse.j2 k (bs [a, e]) [] 2 false 1 1 false) (fun k => ?_) (Ev.step (f := fun _ => some ([], a == 91, 0)) (fun k => ?_) (Ev.now _)))
    · simp only [schismaref05_Parse.j0]
      rw [if_neg (by decide)]
      rfl
    · simp only [schismaref05_Parse.l0]
      rw [if_pos (by decide)]
      rfl
    · simp only [schismaref05_Parse.j2]
      rw [if_neg (by decide), if_neg (by decide), if_neg (by decide), if_pos (by rw [bs_size]; simp), bt0, eq91]
  · have hm0 : 0 < m.length := List.length_pos_iff.2 h0
    have hd : (a :: (m ++ [e])).drop 1 = rest e ws := by
      rw [List.drop_succ_cons, List.drop_zero, ← g2, join_rest e ws g0]
    have := refparse_l (a := a) (t := m ++ [e]) e he hl (by simp <;> omega) ws [] false 1 hd (by omega) (by simp) (by simp) g1
    refine Ev.step (fun k => ?_) this
    simp only [schismaref05_Parse.j0]
    rw [if_neg (by decide)]
    rfl
theorem last_of {b : UInt8} {r : List UInt8} : ∃ (m : List UInt8) (z : UInt8), b :: r = m ++ [z] := ⟨(b :: r).dropLast, (b :: r).getLast (by simp), (List.dropLast_concat_getLast (by simp)).symm⟩
theorem eqn (z n : UInt8) : ((z.toNat : Int) = (n.toNat : Int)) ↔ z = n := by
  constructor
  · intro h
    apply UInt8.toNat_inj.1
    omega
  · rintro rfl
    rfl
theorem refParse {L : List UInt8} (hl : L.length ≤ 200) {R : List Int × Bool × Int} (h : ans L R) : Ev (fun k => schismaref05_Parse.f k (bs L)) R := by
  have hbad : ∀ n, R = ([], false, 15) → Ev (fun k => schismaref05_Parse.j0 k (bs L) ([] : List Int) n true) R := by
    rintro n rfl
    refine Ev.step (f := fun _ => some ([], false, 15)) (fun k => ?_) (Ev.now _)
    simp only [schismaref05_Parse.j0]
    rw [if_pos trivial]
  by_cases hn : L.length < 2
  · have hR : R = ([], false, 15) := by
      rcases h with ⟨m, rfl, _⟩ | ⟨m, rfl, _⟩ | ⟨_, _, rfl⟩
      · exfalso; simp at hn <;> omega
      · exfalso; simp at hn <;> omega
      · rfl
    refine Ev.congr (fun k => ?_) (hbad ((bs L).size : Int) hR)
    unfold schismaref05_Parse.f
    rw [if_pos (by rw [bs_size]; omega)]
  · cases L with
    | nil => simp at hn
    | cons a t =>
      cases t with
      | nil => simp at hn
      | cons b r =>
        obtain ⟨m, z, hm⟩ := last_of (b := b) (r := r)
        rw [hm] at h hbad hl hn ⊢
        have hlen : (a :: (m ++ [z])).length = m.length + 2 := by simp
        have hw : wrap64 (((bs (a :: (m ++ [z]))).size : Int) - 1) = ((m.length + 1 : Nat) : Int) := by rw [bs_size, hlen]; unfold wrap64; omega
        have hz : bt (bs (a :: (m ++ [z]))) ((m.length + 1 : Nat) : Int) = (z.toNat : Int) := bt_drop (r := []) (by rw [List.drop_succ_cons, List.drop_left])
        have ha91 : ((a.toNat : Int) = 91) ↔ a = 91 := eqn a 91
        have ha60 : ((a.toNat : Int) = 60) ↔ a = 60 := eqn a 60
        have hz62 : ((z.toNat : Int) = 62) ↔ z = 62 := eqn z 62
        have hz93 : ((z.toNat : Int) = 93) ↔ z = 93 := eqn z 93
        have hu : ∀ k, schismaref05_Parse.f k (bs (a :: (m ++ [z]))) = schismaref05_Parse.j0 k (bs (a :: (m ++ [z]))) ([] : List Int) (((a :: (m ++ [z])).length : Nat) : Int) (!decide ((a = 91 ∧ z = 62) ∨ (a = 60 ∧ z = 93))) := by
          intro k
          have g0 : ¬ (((bs (a :: (m ++ [z]))).size : Int) < 2) := by rw [bs_size]; omega
          have g1 : (0 : Int) < ((bs (a :: (m ++ [z]))).size : Int) := by rw [bs_size]; omega
          have g2 : (0 : Int) ≤ ((m.length + 1 : Nat) : Int) := by omega
          have g3 : ((m.length + 1 : Nat) : Int) < ((bs (a :: (m ++ [z]))).size : Int) := by rw [bs_size]; omega
          unfold schismaref05_Parse.f
          rw [if_neg g0, if_pos g1, hw, bt0, hz]
          by_cases h1 : a = 91
          · have n1 : ¬ (a = 60) := by rw [h1]; decide
            rw [if_pos (ha91.2 h1), if_pos g2, if_pos g3, bs_size]
            by_cases h2 : z = 62
            · rw [if_pos (hz62.2 h2)]
              simp [h1, h2]
            · rw [if_neg (fun e => h2 (hz62.1 e)), if_neg (fun e => n1 (ha60.1 e))]
              simp [h1, h2]
          · rw [if_neg (fun e => h1 (ha91.1 e))]
            by_cases h2 : a = 60
            · rw [if_pos (ha60.2 h2), if_pos g2, if_pos g3, bs_size]
              have e3 : ((z.toNat : Int) == 93) = decide (z = 93) := by
                by_cases h3 : z = 93
                · rw [decide_eq_true h3, beq_iff_eq.2 (hz93.2 h3)]
                · rw [decide_eq_false h3, beq_eq_false_iff_ne.2 (fun e => h3 (hz93.1 e))]
              rw [e3]
              simp [h1, h2]
            · rw [if_neg (fun e => h2 (ha60.1 e)), bs_size]
              simp [h1, h2]
        refine Ev.congr hu ?_
        rcases h with ⟨m', e', hR⟩ | ⟨m', e', hR⟩ | ⟨n1, n2, rfl⟩
        · injection e' with e1 e2
          obtain ⟨rfl, e3⟩ := List.append_inj' e2 rfl
          injection e3 with e3 _
          subst e1; subst e3
          have := ref_ok 91 62 (by decide) m hl hR
          simpa using this
        · injection e' with e1 e2
          obtain ⟨rfl, e3⟩ := List.append_inj' e2 rfl
          injection e3 with e3 _
          subst e1; subst e3
          have := ref_ok 60 93 (by decide) m hl hR
          simpa using this
        · have hd : decide ((a = 91 ∧ z = 62) ∨ (a = 60 ∧ z = 93)) = false := by
            apply decide_eq_false
            rintro (⟨rfl, rfl⟩ | ⟨rfl, rfl⟩)
            · exact n1 m rfl
            · exact n2 m rfl
          rw [hd]
          exact hbad _ rfl

/-! ### row.Parse -/
theorem cutP (a : UInt8) (b : List UInt8) : strings_CutPrefix.f (bs (a :: b)) (⟨#[a]⟩ : ByteArray) = some (bs b, true) := by
  have h1 : Lib.hasPrefix (a :: b) [a] = true := by simp [Lib.hasPrefix]
  have h2 : Lib.trimPrefix (a :: b) [a] = b := by unfold Lib.trimPrefix; rw [if_pos h1]; rfl
  unfold strings_CutPrefix.f
  rw [bs_data]
  show some (bs (Lib.trimPrefix (a :: b) [a]), Lib.hasPrefix (a :: b) [a]) = _
  rw [h1, h2]
theorem cutP_ne {l : List UInt8} {c : UInt8} (h : l.head? ≠ some c) : strings_CutPrefix.f (bs l) (⟨#[c]⟩ : ByteArray) = some (bs l, false) := by
  have h1 : Lib.hasPrefix l [c] = false := by
    cases l with
    | nil => rfl
    | cons a b =>
      have : ¬ c = a := fun e => h (by rw [e]; rfl)
      show (c == a && ([] : List UInt8).isPrefixOf b) = false
      rw [beq_eq_false_iff_ne.2 this]
      rfl
  have h2 : Lib.trimPrefix l [c] = l := by unfold Lib.trimPrefix; rw [if_neg (by rw [h1]; decide)]
  unfold strings_CutPrefix.f
  rw [bs_data]
  show some (bs (Lib.trimPrefix l [c]), Lib.hasPrefix l [c]) = _
  rw [h1, h2]
theorem cutS (a : UInt8) (b : List UInt8) (hb : b.length ≤ 100000) : strings_CutSuffix.f (bs (b ++ [a])) (⟨#[a]⟩ : ByteArray) = some (bs b, true) := by
  have h1 : Lib.hasSuffix (b ++ [a]) [a] = true := by simp [Lib.hasSuffix, List.isSuffixOf]
  have h2 : Lib.trimSuffix (b ++ [a]) [a] = b := by unfold Lib.trimSuffix; rw [if_pos h1]; simp
  unfold strings_CutSuffix.f
  rw [bs_data, if_pos (by rw [bs_size, List.length_append]; simp <;> omega)]
  show some (bs (Lib.trimSuffix (b ++ [a]) [a]), Lib.hasSuffix (b ++ [a]) [a]) = _
  rw [h1, h2]
theorem cutS_ne {l : List UInt8} {c : UInt8} (hl : l.length ≤ 100000) (h : ∀ b, l ≠ b ++ [c]) : ∃ r, strings_CutSuffix.f (bs l) (⟨#[c]⟩ : ByteArray) = some (r, false) := by
  have h1 : Lib.hasSuffix l [c] = false := by
    cases l with
    | nil => rfl
    | cons a b =>
      obtain ⟨m, z, hm⟩ := last_of (b := a) (r := b)
      rw [hm] at h ⊢
      have : ¬ z = c := fun e => h m (by rw [e])
      have h3 : ¬ c = z := fun e => this e.symm
      have h4 : Lib.hasSuffix (m ++ [z]) [c] = (c == z && ([] : List UInt8).isPrefixOf m.reverse) := by simp [Lib.hasSuffix, List.isSuffixOf, List.isPrefixOf]
      rw [h4, beq_eq_false_iff_ne.2 h3]
      rfl
  unfold strings_CutSuffix.f
  rw [if_pos (by rw [bs_size]; omega), bs_data]
  refine ⟨bs (Lib.trimSuffix l [c]), ?_⟩
  show some (bs (Lib.trimSuffix l [c]), Lib.hasSuffix l [c]) = some (bs (Lib.trimSuffix l [c]), false)
  rw [h1]
theorem rowparse_l (ket : Bool) (W : List ByteArray) (hW : W.length ≤ 1000) : ∀ (ws : List (List UInt8)) (i k : Nat) (acc : List Int), W.drop i = ws.map bs → i ≤ W.length → acc.length ≤ i → (∀ w ∈ ws, canonB (bs w) = true ∧ w.length ≤ 200) → ws.length < k →
    row_Parse.l0 k acc ket W (W.length : Int) i = some (rres ket acc ws)
  | [], i, k, acc, hd, hi, ha, hc, hk => by
    obtain ⟨k, rfl⟩ := pred hk
    have : W.length ≤ i := by simpa [List.drop_eq_nil_iff] using hd
    simp only [row_Parse.l0]
    rw [if_neg (by omega)]
    unfold row_Check.f rres
    rw [Option.bind_some]
    by_cases h : chk acc = 0
    · rw [if_pos h, if_pos h]
    · rw [if_neg h, if_neg h]
  | w :: ws, i, k, acc, hd, hi, ha, hc, hk => by
    obtain ⟨k, rfl⟩ := pred hk
    have hlt : i < W.length := by
      rcases Nat.lt_or_ge i W.length with h' | h'
      · exact h'
      · rw [List.drop_eq_nil_of_le h'] at hd; cases hd
    have hd0 := hd
    rw [List.drop_eq_getElem_cons hlt, List.map_cons] at hd
    injection hd with hd1 hd2
    have hrd : rdOf ByteArray.empty W (i : Int) = bs w := by
      unfold rdOf
      rw [Int.toNat_natCast, List.getD_eq_getElem?_getD, List.getElem?_eq_getElem hlt, ← hd1]
      rfl
    obtain ⟨hcw, hwl⟩ := hc w (List.mem_cons_self ..)
    have hat : strconv_AtoiE.f (bs w) = match Lib.atoiAll w with | .ok v => some (v, none) | .range => some (Lib.atoiSat w, some 0) | _ => none := by
      unfold strconv_AtoiE.f
      rw [if_pos (by rw [bs_size]; omega), bs_data]
      cases Lib.atoiAll w <;> rfl
    rw [List.length_cons] at hk
    simp only [row_Parse.l0]
    rw [if_pos (by omega), if_pos (by omega), if_pos (by omega), hrd, hat]
    unfold rres
    rcases atoi_val hcw with ⟨x, hx, _⟩ | ⟨hx, _⟩
    · rw [hx]
      simp only
      rw [Option.bind_some]
      simp only [Option.isNone_none, if_true]
      rw [if_pos (by omega), wr1 hlt (by omega)]
      exact rowparse_l ket W hW ws (i + 1) k _ hd2 (by omega) (by rw [List.length_append, List.length_singleton]; omega) (fun x hx => hc x (List.mem_cons_of_mem _ hx)) (by omega)
    · rw [hx]
      simp only
      rw [Option.bind_some]
      simp only [Option.isNone_some, Bool.false_eq_true, if_false]
theorem row_j0 (ket : Bool) (e : UInt8) (m : List UInt8) (hl : m.length ≤ 200) {R : List Int × Bool × Int} (hR : (m = [] ∧ R = ([], ket, 0)) ∨ (m ≠ [] ∧ ∃ ws, ws ≠ [] ∧ (∀ w ∈ ws, ∀ c ∈ w, c ≠ 32) ∧ Lib.join ws [32] = m ∧ ws.length ≤ m.length + 1 ∧ (∀ w ∈ ws, w.length ≤ m.length) ∧ R = res ket [] false ws)) {k : Nat} (hk : 300 ≤ k) :
    row_Parse.j0 (k + 1) ([] : List Int) ket (bs (m ++ [e])) (⟨#[e]⟩ : ByteArray) = some R := by
  simp only [row_Parse.j0]
  rw [cutS e m (by omega), Option.bind_some, if_pos rfl]
  rcases hR with ⟨rfl, rfl⟩ | ⟨h0, ws, g0, g1, g2, g3, g4, rfl⟩
  · rw [if_pos (by rw [Lib.toList_data, bs_data])]
  · have hsp := split_eq ws g0 g1 (by rw [g2]; omega) (by omega)
    rw [g2] at hsp
    have hcf : ContainsFunc_76.f (ws.map bs) = some ((ws.map bs).any fun s => !canonB s) := by
      unfold ContainsFunc_76.f
      rw [if_pos]
      rw [List.all_eq_true]
      intro s hs
      obtain ⟨w, hw, rfl⟩ := List.mem_map.1 hs
      have := g4 w hw
      rw [bs_size]
      simp
      omega
    rw [if_neg (by rw [Lib.toList_data, bs_data]; exact h0), hsp, Option.bind_some, hcf, Option.bind_some]
    cases hb : (ws.map bs).any fun s => !canonB s with
    | true =>
      rw [if_pos rfl, res_bad]
      obtain ⟨s, hs, hf⟩ := List.any_eq_true.1 hb
      obtain ⟨w, hw, rfl⟩ := List.mem_map.1 hs
      exact ⟨w, hw, by simpa using hf⟩
    | false =>
      rw [if_neg (by decide)]
      have hall : ∀ w ∈ ws, canonB (bs w) = true := by
        intro w hw
        have := List.any_eq_false.1 hb (bs w) (List.mem_map.2 ⟨w, hw, rfl⟩)
        simpa using this
      have := rowparse_l ket (ws.map bs) (by rw [List.length_map]; omega) ws 0 k [] (by simp) (by omega) (by simp) (fun w hw => ⟨hall w hw, by have := g4 w hw; omega⟩) (by omega)
      rw [← rres_res ket ws [] [] false hall (.inl ⟨rfl, rfl, by simp⟩)]
      simpa using this
theorem rowParse {L : List UInt8} (hl : L.length ≤ 200) {R : List Int × Bool × Int} (h : ans L R) {k : Nat} (hk : 400 ≤ k) : row_Parse.f k (bs L) = some R := by
  obtain ⟨k, rfl⟩ := pred (show 0 < k by omega)
  unfold row_Parse.f
  rw [if_neg (by rw [bs_size]; omega)]
  rcases h with ⟨m, rfl, hR⟩ | ⟨m, rfl, hR⟩ | ⟨n1, n2, rfl⟩
  · rw [cutP, Option.bind_some, if_pos rfl]
    exact row_j0 true 62 m (by simp at hl; omega) hR (by omega)
  · rw [cutP_ne (by simp), Option.bind_some, if_neg (by simp), cutP, Option.bind_some, if_pos rfl]
    exact row_j0 false 93 m (by simp at hl; omega) hR (by omega)
  · cases L with
    | nil =>
      rw [cutP_ne (by simp), Option.bind_some, if_neg (by simp), cutP_ne (by simp), Option.bind_some, if_neg (by simp)]
    | cons a t =>
      rw [List.length_cons] at hl
      by_cases h1 : a = 91
      · subst h1
        obtain ⟨r, hr⟩ := cutS_ne (l := t) (c := 62) (by omega) (fun b hb => n1 b (by rw [hb]))
        rw [cutP, Option.bind_some, if_pos rfl]
        simp only [row_Parse.j0]
        rw [hr, Option.bind_some, if_neg (by simp)]
      · by_cases h2 : a = 60
        · subst h2
          obtain ⟨r, hr⟩ := cutS_ne (l := t) (c := 93) (by omega) (fun b hb => n2 b (by rw [hb]))
          rw [cutP_ne (by simp), Option.bind_some, if_neg (by simp), cutP, Option.bind_some, if_pos rfl]
          simp only [row_Parse.j0]
          rw [hr, Option.bind_some, if_neg (by simp)]
        · rw [cutP_ne (by simpa using h1), Option.bind_some, if_neg (by simp), cutP_ne (by simpa using h2), Option.bind_some, if_neg (by simp)]
theorem rowLong (s : ByteArray) (h : 65536 < s.size) (k : Nat) : row_Parse.f k s = some (([] : List Int), false, 16) := by
  unfold row_Parse.f
  rw [if_pos (by omega)]
theorem strOfNums_size (l : List Int) : (strOfNums l).size = l.length := by
  rw [Lib.size_eq]
  simp [strOfNums]
theorem res_len (ket : Bool) : ∀ (ws : List (List UInt8)) (acc : List Int) (lim : Bool), (res ket acc lim ws).1.length ≤ 64
  | [], acc, lim => by
    unfold res
    split
    · simp
    · split
      · simp
      · simp only; omega
  | w :: ws, acc, lim => by
    unfold res
    split
    · exact res_len ket ws _ _
    · simp
theorem ans_len {L : List UInt8} {R : List Int × Bool × Int} (h : ans L R) : R.1.length ≤ 64 := by
  rcases h with ⟨m, _, ⟨_, rfl⟩ | ⟨_, ws, _, _, _, _, _, rfl⟩⟩ | ⟨m, _, ⟨_, rfl⟩ | ⟨_, ws, _, _, _, _, _, rfl⟩⟩ | ⟨_, _, rfl⟩
  · simp
  · exact res_len ..
  · simp
  · exact res_len ..
  · simp
end Go.Proofs.YtpbbekbdpodedaaDoor.PL
namespace Go.Proofs.YtpbbekbdpodedaaDoor.Pure
open Go.RowKit Go.Proofs.YtpbbekbdpodedaaDoor Go.Proofs.YtpbbekbdpodedaaDoor.PR Go.Proofs.YtpbbekbdpodedaaDoor.PL Go.Proofs.YtpbbekbdpodedaaDoorW.PrintWords Go.Proofs.YtpbbekbdpodedaaDoorW.PrintLast Go.Proofs.YtpbbekbdpodedaaDoorW.PrintMore H
set_option linter.unusedVariables false
set_option linter.unusedSimpArgs false
theorem RowParses : schismalaw05_RowParses.Pure := by
  intro a0 _
  by_cases hn : (a0.size : Int) > 200
  · obtain ⟨K, hK⟩ : ∃ K : Nat, 5000 ≤ K := ⟨5000, Nat.le_refl _⟩
    refine ⟨K + 1, ?_⟩
    unfold schismalaw05_RowParses.f
    rw [known_any (by omega), Option.bind_some, if_pos rfl, decide_eq_true hn]
    simp only [schismalaw05_RowParses.j0, if_true]
    rw [known_any (by omega)]
    rfl
  · obtain ⟨L, rfl⟩ : ∃ L, a0 = bs L := ⟨_, (bs_of a0).symm⟩
    rw [bs_size] at hn
    obtain ⟨R, hR⟩ := ans_ex L
    have hlen := ans_len hR
    obtain ⟨K1, h1⟩ := refParse (by omega) hR
    obtain ⟨K, hK⟩ : ∃ K : Nat, 5000 + K1 ≤ K := ⟨5000 + K1, Nat.le_refl _⟩
    refine ⟨K + 1, ?_⟩
    have e1 := h1 K (by omega)
    simp only at e1
    have hlong : ∀ n : Nat, 65536 < n → row_Parse.f K (strOfNums (List.replicate n 0)) = some (([] : List Int), false, 16) := fun n hn => rowLong _ (by rw [strOfNums_size, List.length_replicate]; exact hn) K
    unfold schismalaw05_RowParses.f
    rw [known_any (by omega), Option.bind_some, if_pos rfl, bs_size, decide_eq_false hn]
    simp only [schismalaw05_RowParses.j0, Bool.false_eq_true, if_false]
    rw [rowParse (by omega) hR (by omega), Option.bind_some, e1, Option.bind_some, if_pos (by omega), hlong 65537 (by omega), Option.bind_some, if_pos rfl, refEqual R.1 R.1 (by omega) (by omega) (by omega), Option.bind_some, if_pos (decide_eq_true rfl), if_pos (by simp)]
    rfl
end Go.Proofs.YtpbbekbdpodedaaDoor.Pure
