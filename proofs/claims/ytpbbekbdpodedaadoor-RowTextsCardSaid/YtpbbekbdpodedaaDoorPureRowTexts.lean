import Derived.Test.YtpbbekbdpodedaaDoorPRX
import Derived.Test.YtpbbekbdpodedaaDoorPL0
import Derived.Lib.ItoaLen
import Derived.Test.YtpbbekbdpodedaaDoorPL1
namespace Go.Proofs.YtpbbekbdpodedaaDoor.PL
open Go.RowKit Go.Proofs.YtpbbekbdpodedaaDoor Go.Proofs.YtpbbekbdpodedaaDoor.PR Go.Proofs.YtpbbekbdpodedaaDoorW.PrintWords Go.Proofs.YtpbbekbdpodedaaDoorW.PrintLast Go.Proofs.YtpbbekbdpodedaaDoorW.PrintMore H
set_option linter.unusedVariables false
set_option linter.unusedSimpArgs false

/-! ### decimal digits -/
theorem dec_big {u : Nat} (h : ¬ u < 10) : Lib.decDigits u = Lib.decDigits (u / 10) ++ [UInt8.ofNat (48 + u % 10)] := by rw [Lib.decDigits, dif_neg h]
theorem dig_of {d : Nat} (h : d < 10) : (UInt8.ofNat (48 + d)).toNat = 48 + d := by
  rw [UInt8.toNat_ofNat']
  omega
theorem parse_snoc (c : UInt8) (hc : 48 ≤ c.toNat ∧ c.toNat ≤ 57) : ∀ (l : List UInt8) (acc v : Nat), Lib.parseUint10 acc l = .ok v → v < 1844674407370955161 → Lib.parseUint10 acc (l ++ [c]) = .ok (v * 10 + (c.toNat - 48))
  | [], acc, v, h, hv => by
    simp only [Lib.parseUint10] at h
    injection h with h
    subst h
    simp only [List.nil_append, Lib.parseUint10]
    rw [if_pos hc, if_neg (by omega), if_neg (by omega)]
  | x :: l, acc, v, h, hv => by
    simp only [List.cons_append, Lib.parseUint10] at h ⊢
    by_cases h1 : 48 ≤ x.toNat ∧ x.toNat ≤ 57
    · rw [if_pos h1] at h ⊢
      by_cases h2 : 1844674407370955162 ≤ acc
      · rw [if_pos h2] at h; cases h
      · rw [if_neg h2] at h ⊢
        by_cases h3 : 18446744073709551616 ≤ acc * 10 + (x.toNat - 48)
        · rw [if_pos h3] at h; cases h
        · rw [if_neg h3] at h ⊢
          exact parse_snoc c hc l _ v h hv
    · rw [if_neg h1] at h; cases h
theorem parse_dec (u : Nat) : u ≤ 1000000000000 → Lib.parseUint10 0 (Lib.decDigits u) = .ok u := by
  induction u using Nat.strongRecOn with
  | _ u ih =>
    intro hu
    by_cases h : u < 10
    · rw [Lib.decDigits_one h]
      simp only [Lib.parseUint10]
      rw [dig_of h, if_pos (by omega), if_neg (by omega), if_neg (by omega)]
      congr 1
      omega
    · rw [dec_big h]
      have := parse_snoc (UInt8.ofNat (48 + u % 10)) (by rw [dig_of (Nat.mod_lt _ (by omega))]; omega) _ 0 (u / 10) (ih (u / 10) (by omega) (by omega)) (by omega)
      rw [this, dig_of (Nat.mod_lt _ (by omega))]
      congr 1
      omega
theorem dec_digs (u : Nat) : ∀ c ∈ Lib.decDigits u, digB c = true := by
  induction u using Nat.strongRecOn with
  | _ u ih =>
    by_cases h : u < 10
    · rw [Lib.decDigits_one h]
      intro c hc
      rw [List.mem_singleton.1 hc]
      unfold digB
      rw [dig_of h]
      simp
      omega
    · rw [dec_big h]
      intro c hc
      rcases List.mem_append.1 hc with hc | hc
      · exact ih (u / 10) (by omega) c hc
      · rw [List.mem_singleton.1 hc]
        unfold digB
        rw [dig_of (Nat.mod_lt _ (by omega))]
        simp
        omega
theorem dec_ne (u : Nat) : Lib.decDigits u ≠ [] := by
  by_cases h : u < 10
  · rw [Lib.decDigits_one h]; simp
  · rw [dec_big h]; simp
theorem dec_head (u : Nat) : 0 < u → (Lib.decDigits u).getD 0 0 ≠ 48 := by
  induction u using Nat.strongRecOn with
  | _ u ih =>
    intro h0
    by_cases h : u < 10
    · rw [Lib.decDigits_one h]
      intro e
      have : (UInt8.ofNat (48 + u)).toNat = 48 := by
        have e' : UInt8.ofNat (48 + u) = 48 := by simpa using e
        rw [e']; rfl
      rw [dig_of h] at this
      omega
    · rw [dec_big h]
      have := ih (u / 10) (by omega) (by omega)
      cases hx : Lib.decDigits (u / 10) with
      | nil => exact absurd hx (dec_ne _)
      | cons a b =>
        rw [hx] at this
        simpa using this
theorem atoi_itoa {n : Int} (h : -1000000000 ≤ n ∧ n ≤ 1000000000) : Lib.atoiAll (Lib.itoa n) = .ok n := by
  unfold Lib.itoa
  by_cases h0 : n < 0
  · rw [if_pos h0]
    have hp := parse_dec n.natAbs (by omega)
    unfold Lib.atoiAll
    simp only
    rw [if_pos (show (45 : UInt8).toNat = 43 ∨ (45 : UInt8).toNat = 45 from by decide)]
    unfold Lib.parseMag
    rw [if_neg (dec_ne _), hp]
    simp only
    rw [if_neg (by simp), if_neg (by simp; omega), if_pos (show (45 : UInt8).toNat = 45 from by decide)]
    congr 1
    omega
  · rw [if_neg h0]
    have hp := parse_dec n.toNat (by omega)
    have hd := dec_digs n.toNat
    cases hx : Lib.decDigits n.toNat with
    | nil => exact absurd hx (dec_ne _)
    | cons a b =>
      have ha := hd a (by rw [hx]; exact List.mem_cons_self ..)
      unfold digB at ha
      simp at ha
      unfold Lib.atoiAll
      simp only
      rw [if_neg (by omega)]
      unfold Lib.parseMag
      rw [if_neg (by simp), ← hx, hp]
      simp only
      rw [if_neg (by omega), if_neg (by omega), if_neg (by omega)]
      congr 1
      omega
theorem canon_itoa {n : Int} : canonB ⟨(Lib.itoa n).toArray⟩ = true := by
  have hall : ∀ u, (Lib.decDigits u).all digB = true := fun u => List.all_eq_true.2 (dec_digs u)
  unfold canonB Lib.itoa
  by_cases h0 : n < 0
  · rw [if_pos h0]
    have ht : Lib.trimPrefix (45 :: Lib.decDigits n.natAbs) [45] = Lib.decDigits n.natAbs := by
      simp [Lib.trimPrefix, Lib.hasPrefix]
    simp only [List.toList_toArray]
    rw [ht, hall]
    have h1 : (Lib.decDigits n.natAbs != []) = true := by simpa using dec_ne n.natAbs
    have h2 : ((Lib.decDigits n.natAbs).getD 0 0 != 48) = true := by simpa using dec_head n.natAbs (by omega)
    rw [h1, h2]
    simp
  · rw [if_neg h0]
    have ht : Lib.trimPrefix (Lib.decDigits n.toNat) [45] = Lib.decDigits n.toNat := by
      cases hx : Lib.decDigits n.toNat with
      | nil => rfl
      | cons a b =>
        have ha := dec_digs n.toNat a (by rw [hx]; exact List.mem_cons_self ..)
        have : ¬ 45 = a := by
          intro e
          subst e
          revert ha
          decide
        simp [Lib.trimPrefix, Lib.hasPrefix, this]
    simp only [List.toList_toArray]
    rw [ht, hall]
    by_cases hz : n.toNat = 0
    · rw [hz, Lib.decDigits_one (by omega)]
      rfl
    · have h1 : (Lib.decDigits n.toNat != []) = true := by simpa using dec_ne n.toNat
      have h2 : ((Lib.decDigits n.toNat).getD 0 0 != 48) = true := by simpa using dec_head n.toNat (by omega)
      rw [h1, h2]
      simp
end Go.Proofs.YtpbbekbdpodedaaDoor.PL
namespace Go.Proofs.YtpbbekbdpodedaaDoor.PL
open Go.RowKit Go.Proofs.YtpbbekbdpodedaaDoor Go.Proofs.YtpbbekbdpodedaaDoor.PR Go.Proofs.YtpbbekbdpodedaaDoorW.PrintWords Go.Proofs.YtpbbekbdpodedaaDoorW.PrintLast Go.Proofs.YtpbbekbdpodedaaDoorW.PrintMore H
set_option linter.unusedVariables false
set_option linter.unusedSimpArgs false

/-! ### Split of Join -/
theorem ib_none : ∀ (w : List UInt8), (∀ c ∈ w, c ≠ 32) → Lib.indexByte w 32 = -1
  | [], _ => rfl
  | b :: w, h => by
    have hb := h b (List.mem_cons_self ..)
    have ih := ib_none w (fun c hc => h c (List.mem_cons_of_mem _ hc))
    unfold Lib.indexByte
    rw [if_neg (by simpa using hb), ih]
    rfl
theorem ib_hit : ∀ (w rest : List UInt8), (∀ c ∈ w, c ≠ 32) → Lib.indexByte (w ++ 32 :: rest) 32 = (w.length : Int)
  | [], rest, _ => by
    simp [Lib.indexByte]
  | b :: w, rest, h => by
    have hb := h b (List.mem_cons_self ..)
    have ih := ib_hit w rest (fun c hc => h c (List.mem_cons_of_mem _ hc))
    rw [List.cons_append]
    unfold Lib.indexByte
    rw [if_neg (by simpa using hb), ih, if_neg (by simp)]
    simp
theorem join_cons (w v : List UInt8) (ws : List (List UInt8)) : Lib.join (w :: v :: ws) [32] = w ++ 32 :: Lib.join (v :: ws) [32] := by
  unfold Lib.join
  rw [List.intercalate, List.intersperse_cons_cons]
  simp [List.intercalate]
theorem join_one (w : List UInt8) : Lib.join [w] [32] = w := by
  simp [Lib.join, List.intercalate]
theorem split_join : ∀ (ws : List (List UInt8)), ws ≠ [] → (∀ w ∈ ws, ∀ c ∈ w, c ≠ 32) →
    Lib.count (Lib.join ws [32]) [32] + 1 = ws.length ∧ Lib.splitK [32] 0 (Lib.count (Lib.join ws [32]) [32]) (Lib.join ws [32]) = ws
  | [], h, _ => absurd rfl h
  | [w], _, h => by
    rw [join_one]
    have hi : Lib.index w [32] = -1 := by rw [Lib.index_one]; exact ib_none w (h w (List.mem_cons_self ..))
    rw [Lib.count_miss hi]
    exact ⟨rfl, rfl⟩
  | w :: v :: ws, _, h => by
    rw [join_cons]
    obtain ⟨h1, h2⟩ := split_join (v :: ws) (by simp) (fun x hx => h x (List.mem_cons_of_mem _ hx))
    generalize Lib.join (v :: ws) [32] = J at h1 h2 ⊢
    have hi : Lib.index (w ++ 32 :: J) [32] = (w.length : Int) := by rw [Lib.index_one]; exact ib_hit w J (h w (List.mem_cons_self ..))
    have hd : (w ++ 32 :: J).drop (w.length + 1) = J := by
      rw [List.drop_append, List.drop_eq_nil_of_le (by omega)]
      simp
    have hc : Lib.count (w ++ 32 :: J) [32] = 1 + Lib.count J [32] := by
      rw [Lib.count_hit (by simp) hi]
      rw [show ([32] : List UInt8).length = 1 from rfl, hd]
    rw [hc]
    refine ⟨by simp only [List.length_cons] at h1 ⊢; omega, ?_⟩
    rw [Nat.add_comm 1]
    unfold Lib.splitK
    rw [hi, if_neg (by simp), Int.toNat_natCast, Nat.add_zero, show ([32] : List UInt8).length = 1 from rfl, hd, h2]
    simp
/-- A string of bytes. -/
def bs (l : List UInt8) : ByteArray := ⟨l.toArray⟩
theorem bs_data (l : List UInt8) : (bs l).data.toList = l := by simp [bs]
theorem bs_size (l : List UInt8) : (bs l).size = l.length := by rw [Lib.size_eq, bs_data]
theorem bs_of (b : ByteArray) : bs b.data.toList = b := by cases b; simp [bs]
theorem bs_append (a b : List UInt8) : bs a ++ bs b = bs (a ++ b) := by
  apply ByteArray.ext
  simp [bs, ByteArray.data_append]
theorem split_eq (ws : List (List UInt8)) (h0 : ws ≠ []) (h : ∀ w ∈ ws, ∀ c ∈ w, c ≠ 32) (hl : (Lib.join ws [32]).length ≤ 100000) (hw : ws.length ≤ 1000) :
    strings_Split.f (bs (Lib.join ws [32])) (⟨#[32]⟩ : ByteArray) = some (ws.map bs) := by
  obtain ⟨h1, h2⟩ := split_join ws h0 h
  have hc : Lib.countB (bs (Lib.join ws [32])) ⟨#[32]⟩ = Lib.count (Lib.join ws [32]) [32] := by
    unfold Lib.countB
    rw [bs_data]
  have hs : Lib.splitB ⟨#[32]⟩ 0 (Lib.countB (bs (Lib.join ws [32])) ⟨#[32]⟩) (bs (Lib.join ws [32])) = ws.map bs := by
    have hd := Lib.splitB_data ⟨#[32]⟩ 0 (Lib.countB (bs (Lib.join ws [32])) ⟨#[32]⟩) (bs (Lib.join ws [32]))
    rw [bs_data, hc] at hd
    have hd' : (Lib.splitB ⟨#[32]⟩ 0 (Lib.count (Lib.join ws [32]) [32]) (bs (Lib.join ws [32]))).map (fun b => b.data.toList) = ws := hd.trans h2
    rw [hc]
    generalize Lib.splitB ⟨#[32]⟩ 0 (Lib.count (Lib.join ws [32]) [32]) (bs (Lib.join ws [32])) = L at hd'
    rw [← hd', List.map_map]
    conv => lhs; rw [← List.map_id L]
    apply List.map_congr_left
    intro b _
    exact (bs_of b).symm
  unfold strings_Split.f
  rw [hs, hc, if_pos]
  exact ⟨by rw [bs_size]; omega, by decide, by rw [List.length_map]; omega, by omega⟩
end Go.Proofs.YtpbbekbdpodedaaDoor.PL
namespace Go.Proofs.YtpbbekbdpodedaaDoor.PL
open Go.RowKit Go.Proofs.YtpbbekbdpodedaaDoor Go.Proofs.YtpbbekbdpodedaaDoor.PR Go.Proofs.YtpbbekbdpodedaaDoorW.PrintWords Go.Proofs.YtpbbekbdpodedaaDoorW.PrintLast Go.Proofs.YtpbbekbdpodedaaDoorW.PrintMore H
set_option linter.unusedVariables false
set_option linter.unusedSimpArgs false

def OKl (l : List Int) : Prop := l.length ≤ 64 ∧ ∀ x ∈ l, -1000000000 ≤ x ∧ x ≤ 1000000000
def body (l : List Int) : List UInt8 := Lib.join (l.map Lib.itoa) [32]
theorem itoa_len {n : Int} (h : -1000000000 ≤ n ∧ n ≤ 1000000000) : (Lib.itoa n).length ≤ 21 := Lib.itoa_length_le n (by omega) (by omega)
theorem itoa_ne (n : Int) : Lib.itoa n ≠ [] := by
  unfold Lib.itoa
  split
  · simp
  · exact dec_ne _
theorem itoa_sp (n : Int) : ∀ c ∈ Lib.itoa n, c ≠ 32 := by
  have hd : ∀ u, ∀ c ∈ Lib.decDigits u, c ≠ 32 := by
    intro u c hc e
    have := dec_digs u c hc
    subst e
    revert this
    decide
  unfold Lib.itoa
  split
  · intro c hc
    rcases List.mem_cons.1 hc with rfl | hc
    · decide
    · exact hd _ c hc
  · exact hd _
theorem join_len : ∀ (ws : List (List UInt8)), (∀ w ∈ ws, w.length ≤ 21) → (Lib.join ws [32]).length ≤ 22 * ws.length
  | [], _ => by simp [Lib.join, List.intercalate]
  | [w], h => by
    rw [join_one]
    have := h w (List.mem_cons_self ..)
    simp only [List.length_cons, List.length_nil]
    omega
  | w :: v :: ws, h => by
    rw [join_cons]
    have h1 := h w (List.mem_cons_self ..)
    have h2 := join_len (v :: ws) (fun x hx => h x (List.mem_cons_of_mem _ hx))
    simp only [List.length_append, List.length_cons] at h2 ⊢
    omega
theorem body_len {l : List Int} (h : OKl l) : (body l).length ≤ 1408 := by
  have := join_len (l.map Lib.itoa) (by
    intro w hw
    obtain ⟨x, hx, rfl⟩ := List.mem_map.1 hw
    exact itoa_len (h.2 x hx))
  rw [List.length_map] at this
  have := h.1
  unfold body
  omega
theorem join_snoc (v : List UInt8) : ∀ (ws : List (List UInt8)), ws ≠ [] → Lib.join (ws ++ [v]) [32] = Lib.join ws [32] ++ [32] ++ v
  | [], h => absurd rfl h
  | [w], _ => by
    rw [List.cons_append, List.nil_append, join_cons, join_one, join_one]
    simp
  | w :: u :: ws, _ => by
    have := join_snoc v (u :: ws) (by simp)
    rw [List.cons_append] at this ⊢
    rw [List.cons_append, join_cons, join_cons, this]
    simp
/-- The brackets. -/
def full (ket : Bool) (b : List UInt8) : List UInt8 := (if ket = true then 91 else 60) :: b ++ [if ket = true then 62 else 93]

/-! ### Text -/
theorem itoa_f {n : Int} (h : -1000000000 ≤ n ∧ n ≤ 1000000000) : strconv_Itoa_70.f n = some (bs (Lib.itoa n)) := by
  unfold strconv_Itoa_70.f
  rw [if_pos (by omega)]
  rfl
def fin (ket : Bool) (ws : List ByteArray) : Option (ByteArray × Int) :=
  (strings_Join.f ws (⟨#[32]⟩ : ByteArray)).bind fun t137 => (if ket = true then (if 1 + t137.size ≤ 9223372036854775807 then (if ((⟨#[91]⟩ : ByteArray) ++ t137).size + 1 ≤ 9223372036854775807 then (some (((⟨#[91]⟩ : ByteArray) ++ t137) ++ (⟨#[62]⟩ : ByteArray), 0)) else (none)) else (none)) else (if 1 + t137.size ≤ 9223372036854775807 then (if ((⟨#[60]⟩ : ByteArray) ++ t137).size + 1 ≤ 9223372036854775807 then (some (((⟨#[60]⟩ : ByteArray) ++ t137) ++ (⟨#[93]⟩ : ByteArray), 0)) else (none)) else (none)))
theorem text_l (ket : Bool) (l : List Int) (h : OKl l) (d : Nat) : ∀ (i k : Nat) (acc : List ByteArray), l.length - i = d → i ≤ l.length → acc.length ≤ i → d < k →
    row_Text.l0 k ket acc l (l.length : Int) i = fin ket (acc ++ (l.drop i).map (fun x => bs (Lib.itoa x))) := by
  have hl := h.1
  induction d with
  | zero =>
    intro i k acc hd hi ha hk
    obtain ⟨k, rfl⟩ := pred hk
    simp only [row_Text.l0]
    rw [if_neg (by omega), List.drop_eq_nil_of_le (by omega), List.map_nil, List.append_nil]
    rfl
  | succ d ih =>
    intro i k acc hd hi ha hk
    obtain ⟨k, rfl⟩ := pred hk
    have hlt : i < l.length := by omega
    have hx := h.2 _ (rd_mem l i hlt)
    simp only [row_Text.l0]
    rw [if_pos (by omega), if_pos (by omega), if_pos (by omega), itoa_f hx, Option.bind_some, if_pos (by omega), drop_rd l i hlt, wr1 hlt (by omega), ih (i + 1) k _ (by omega) (by omega) (by simp; omega) (by omega)]
    simp
theorem bs1 (a : UInt8) (l : List UInt8) : (⟨#[a]⟩ : ByteArray) ++ bs l = bs (a :: l) := bs_append [a] l
theorem bs2 (l : List UInt8) (a : UInt8) : bs l ++ (⟨#[a]⟩ : ByteArray) = bs (l ++ [a]) := bs_append l [a]
theorem fin_eq (ket : Bool) {l : List Int} (h : OKl l) : fin ket (l.map (fun x => bs (Lib.itoa x))) = some (bs (full ket (body l)), 0) := by
  have hb := body_len h
  have hl := h.1
  have hm : (l.map (fun x => bs (Lib.itoa x))).map (·.data.toList) = l.map Lib.itoa := by
    rw [List.map_map]
    apply List.map_congr_left
    intro x _
    exact bs_data _
  have hj : strings_Join.f (l.map (fun x => bs (Lib.itoa x))) (⟨#[32]⟩ : ByteArray) = some (bs (body l)) := by
    unfold strings_Join.f
    rw [hm]
    have hb' : (Lib.join (l.map Lib.itoa) [32]).length ≤ 1408 := hb
    rw [if_pos ⟨by rw [List.length_map]; omega, by show (Lib.join (l.map Lib.itoa) [32]).length ≤ _; omega⟩]
    rfl
  unfold fin full
  rw [hj, Option.bind_some]
  have hs : (bs (body l)).size ≤ 1408 := by rw [bs_size]; exact hb
  cases ket with
  | true =>
    simp only [if_true]
    rw [if_pos (by omega), bs1, if_pos (by rw [bs_size, List.length_cons]; omega), bs2]
  | false =>
    simp only [Bool.false_eq_true, if_false]
    rw [if_pos (by omega), bs1, if_pos (by rw [bs_size, List.length_cons]; omega), bs2]
theorem rowText (ket : Bool) {l : List Int} (h : OKl l) (hc : chk l = 0) {k : Nat} (hk : 100 ≤ k) : row_Text.f k l ket = some (bs (full ket (body l)), 0) := by
  have hl := h.1
  unfold row_Text.f row_Check.f
  rw [Option.bind_some, if_pos hc]
  have := text_l ket l h l.length 0 k [] (by omega) (by omega) (by simp) (by omega)
  rw [List.drop_zero, List.nil_append, fin_eq ket h] at this
  exact this

/-! ### the reference's Text -/
theorem refdig_nat (u : Nat) : u ≤ 1000000000 → Ev (fun k => schismaref05_digits.f k (u : Int)) (bs (Lib.decDigits u)) := by
  induction u using Nat.strongRecOn with
  | _ u ih =>
    intro hu
    have hb : ∀ d : Nat, d < 10 → strOfNums [(48 + ((d : Int) % 256)) % 256] = bs [UInt8.ofNat (48 + d)] := by
      intro d hd
      unfold strOfNums bs
      rw [List.map_singleton]
      congr 4
      omega
    by_cases h : u < 10
    · refine Ev.step (f := fun _ => some (bs (Lib.decDigits u))) (fun k => ?_) (Ev.now _)
      simp only [schismaref05_digits.f]
      rw [if_neg (by omega), if_pos (by omega), Lib.decDigits_one h, hb u h]
    · have h1 := ih (u / 10) (by omega) (by omega)
      have hlen : (Lib.decDigits (u / 10)).length ≤ 21 := by
        have := itoa_len (n := ((u / 10 : Nat) : Int)) (by omega)
        unfold Lib.itoa at this
        rw [if_neg (by omega), Int.toNat_natCast] at this
        exact this
      have hm : Int.tmod (u : Int) 10 = ((u % 10 : Nat) : Int) := (Int.ofNat_tmod u 10).symm
      have hq : wrap64 (Int.tdiv (u : Int) 10) = ((u / 10 : Nat) : Int) := by
        have ht : Int.tdiv (u : Int) 10 = ((u / 10 : Nat) : Int) := (Int.ofNat_tdiv u 10).symm
        rw [ht]
        unfold wrap64
        omega
      have h2 := Ev.bind h1 (f := fun k t178 => ((some (([(48 + ((Int.tmod (u : Int) 10) % 256)) % 256] : List Int) : List Int)).bind fun y179 => (if t178.size + (strOfNums y179).size ≤ 9223372036854775807 then (some (t178 ++ (strOfNums y179))) else (none)))) (r := bs (Lib.decDigits u)) (by
        refine Ev.congr (fun k => ?_) (Ev.now _)
        rw [Option.bind_some, hm, hb _ (Nat.mod_lt _ (by omega)), if_pos (by rw [bs_size, bs_size]; simp; omega), bs_append, ← dec_big h])
      refine Ev.step (fun k => ?_) h2
      simp only [schismaref05_digits.f]
      rw [if_neg (by omega), if_neg (by omega), hq]
theorem refdig {n : Int} (h : -1000000000 ≤ n ∧ n ≤ 1000000000) : Ev (fun k => schismaref05_digits.f k n) (bs (Lib.itoa n)) := by
  by_cases h0 : n < 0
  · have h1 := refdig_nat n.natAbs (by omega)
    have hw : wrap64 (-n) = (n.natAbs : Int) := by unfold wrap64; omega
    have hlen := itoa_len h
    unfold Lib.itoa at hlen ⊢
    rw [if_pos h0] at hlen ⊢
    rw [List.length_cons] at hlen
    have h2 := Ev.bind h1 (f := fun k t174 => (if 1 + t174.size ≤ 9223372036854775807 then (some ((⟨#[45]⟩ : ByteArray) ++ t174)) else (none))) (r := bs (45 :: Lib.decDigits n.natAbs)) (by
      refine Ev.congr (fun k => ?_) (Ev.now _)
      rw [if_pos (by rw [bs_size]; omega), bs1])
    refine Ev.step (fun k => ?_) h2
    simp only [schismaref05_digits.f]
    rw [if_pos h0, hw]
  · have h1 := refdig_nat n.toNat (by omega)
    rw [show ((n.toNat : Nat) : Int) = n from by omega] at h1
    unfold Lib.itoa
    rw [if_neg h0]
    exact h1
theorem body_take {l : List Int} {i : Nat} (hi : i < l.length) (h0 : 0 < i) : body (l.take (i + 1)) = body (l.take i) ++ [32] ++ Lib.itoa (rd l (i : Int)) := by
  have e : l.take (i + 1) = l.take i ++ [rd l (i : Int)] := by
    rw [List.take_add_one, List.getElem?_eq_getElem hi]
    unfold rd
    rw [Int.toNat_natCast, List.getD_eq_getElem?_getD, List.getElem?_eq_getElem hi]
    rfl
  unfold body
  rw [e, List.map_append, List.map_singleton, join_snoc]
  intro hn
  have := congrArg List.length hn
  rw [List.length_map, List.length_take, List.length_nil] at this
  omega
theorem okl_take {l : List Int} (h : OKl l) (i : Nat) : OKl (l.take i) := ⟨by rw [List.length_take]; have := h.1; omega, fun x hx => h.2 x (List.mem_of_mem_take hx)⟩
theorem reftext_l (ket : Bool) (l : List Int) (h : OKl l) (d : Nat) : ∀ (i : Nat), l.length - i = d → i ≤ l.length →
    Ev (fun k => schismaref05_Text.l0 k l ket (bs (body (l.take i))) i) (bs (full ket (body l))) := by
  have hl := h.1
  induction d with
  | zero =>
    intro i hd hi
    refine Ev.step (f := fun _ => some (bs (full ket (body l)))) (fun k => ?_) (Ev.now _)
    simp only [schismaref05_Text.l0]
    rw [if_neg (by omega), List.take_of_length_le (by omega)]
    have hs : (bs (body l)).size ≤ 1408 := by rw [bs_size]; exact body_len h
    unfold full
    cases ket with
    | true =>
      simp only [if_true]
      rw [if_pos (by omega), bs1, if_pos (by rw [bs_size, List.length_cons]; rw [bs_size] at hs; omega), bs2]
    | false =>
      simp only [Bool.false_eq_true, if_false]
      rw [if_pos (by omega), bs1, if_pos (by rw [bs_size, List.length_cons]; rw [bs_size] at hs; omega), bs2]
  | succ d ih =>
    intro i hd hi
    have hlt : i < l.length := by omega
    have hx := h.2 _ (rd_mem l i hlt)
    have hn := ih (i + 1) (by omega) (by omega)
    have hg := refdig hx
    have hli := itoa_len hx
    have hbi := body_len (okl_take h i)
    by_cases h0 : 0 < i
    · rw [body_take hlt h0] at hn
      have h2 := Ev.bind hg (f := fun k t183 => (if (bs (body (l.take i)) ++ (⟨#[32]⟩ : ByteArray)).size + t183.size ≤ 9223372036854775807 then (schismaref05_Text.l0 k l ket ((bs (body (l.take i)) ++ (⟨#[32]⟩ : ByteArray)) ++ t183) (wrap64 ((i : Int) + 1))) else (none))) (r := bs (full ket (body l))) (by
        refine Ev.congr (fun k => ?_) hn
        rw [bs2, if_pos (by rw [bs_size, bs_size, List.length_append]; simp; omega), bs_append, wr1 hlt (by omega)])
      refine Ev.step (fun k => ?_) h2
      simp only [schismaref05_Text.l0]
      rw [if_pos (by omega), if_pos (by omega), if_pos (by rw [bs_size]; omega), if_pos (by omega)]
    · obtain rfl : i = 0 := by omega
      have hb1 : body (l.take (0 + 1)) = body (l.take 0) ++ Lib.itoa (rd l ((0 : Nat) : Int)) := by
        cases l with
        | nil => simp at hlt
        | cons a b =>
          show body [a] = body [] ++ Lib.itoa a
          unfold body
          rw [List.map_singleton, join_one]
          simp [Lib.join, List.intercalate]
      rw [hb1] at hn
      have h2 := Ev.bind hg (f := fun k t185 => (if (bs (body (l.take 0))).size + t185.size ≤ 9223372036854775807 then (schismaref05_Text.l0 k l ket (bs (body (l.take 0)) ++ t185) (wrap64 (((0 : Nat) : Int) + 1))) else (none))) (r := bs (full ket (body l))) (by
        refine Ev.congr (fun k => ?_) hn
        rw [if_pos (by rw [bs_size, bs_size]; omega), bs_append, wr1 hlt (by omega)])
      refine Ev.step (fun k => ?_) h2
      simp only [schismaref05_Text.l0]
      rw [if_pos (by omega), if_neg (by omega), if_pos (by omega)]
theorem refText (ket : Bool) {l : List Int} (h : OKl l) : Ev (fun k => schismaref05_Text.f k l ket) (bs (full ket (body l))) := by
  have := reftext_l ket l h l.length 0 (by omega) (by omega)
  exact this
end Go.Proofs.YtpbbekbdpodedaaDoor.PL
namespace Go.Proofs.YtpbbekbdpodedaaDoor.Pure
open Go.RowKit Go.Proofs.YtpbbekbdpodedaaDoor Go.Proofs.YtpbbekbdpodedaaDoor.PR Go.Proofs.YtpbbekbdpodedaaDoor.PL Go.Proofs.YtpbbekbdpodedaaDoorW.PrintWords Go.Proofs.YtpbbekbdpodedaaDoorW.PrintLast Go.Proofs.YtpbbekbdpodedaaDoorW.PrintMore H
set_option linter.unusedVariables false
set_option linter.unusedSimpArgs false

theorem cutP (a : UInt8) (b : List UInt8) : strings_CutPrefix.f (bs (a :: b)) (⟨#[a]⟩ : ByteArray) = some (bs b, true) := by
  have h1 : Lib.hasPrefix (a :: b) [a] = true := by simp [Lib.hasPrefix]
  have h2 : Lib.trimPrefix (a :: b) [a] = b := by unfold Lib.trimPrefix; rw [if_pos h1]; rfl
  unfold strings_CutPrefix.f
  rw [bs_data]
  show some (bs (Lib.trimPrefix (a :: b) [a]), Lib.hasPrefix (a :: b) [a]) = _
  rw [h1, h2]
theorem cutP_ne {a c : UInt8} (h : ¬ c = a) (b : List UInt8) : strings_CutPrefix.f (bs (a :: b)) (⟨#[c]⟩ : ByteArray) = some (bs (a :: b), false) := by
  have h1 : Lib.hasPrefix (a :: b) [c] = false := by
    show (c == a && ([] : List UInt8).isPrefixOf b) = false
    rw [beq_eq_false_iff_ne.2 h]
    rfl
  have h2 : Lib.trimPrefix (a :: b) [c] = a :: b := by unfold Lib.trimPrefix; rw [if_neg (by rw [h1]; decide)]
  unfold strings_CutPrefix.f
  rw [bs_data]
  show some (bs (Lib.trimPrefix (a :: b) [c]), Lib.hasPrefix (a :: b) [c]) = _
  rw [h1, h2]
theorem cutS (a : UInt8) (b : List UInt8) (hb : b.length ≤ 100000) : strings_CutSuffix.f (bs (b ++ [a])) (⟨#[a]⟩ : ByteArray) = some (bs b, true) := by
  have h1 : Lib.hasSuffix (b ++ [a]) [a] = true := by simp [Lib.hasSuffix, List.isSuffixOf]
  have h2 : Lib.trimSuffix (b ++ [a]) [a] = b := by unfold Lib.trimSuffix; rw [if_pos h1]; simp
  unfold strings_CutSuffix.f
  rw [bs_data, if_pos (by rw [bs_size, List.length_append]; simp; omega)]
  show some (bs (Lib.trimSuffix (b ++ [a]) [a]), Lib.hasSuffix (b ++ [a]) [a]) = _
  rw [h1, h2]
theorem atoi_f {n : Int} (h : -1000000000 ≤ n ∧ n ≤ 1000000000) : strconv_Atoi.f (bs (Lib.itoa n)) = some (n, none) := by
  have hl := itoa_len h
  unfold strconv_Atoi.f
  rw [if_pos (by rw [bs_size]; omega), bs_data, atoi_itoa h]
theorem parse_l (ket : Bool) (l : List Int) (h : OKl l) (hc : chk l = 0) (d : Nat) : ∀ (i k : Nat), l.length - i = d → i ≤ l.length → d + 10 < k →
    row_Parse.l0 k (l.take i) ket (l.map fun x => bs (Lib.itoa x)) (((l.map fun x => bs (Lib.itoa x)).length : Nat) : Int) i = some (l, ket, 0) := by
  have hl := h.1
  induction d with
  | zero =>
    intro i k hd hi hk
    obtain ⟨k, rfl⟩ := pred (show 0 < k by omega)
    simp only [row_Parse.l0]
    rw [if_neg (by rw [List.length_map]; omega), List.take_of_length_le (by omega)]
    unfold row_Check.f
    rw [Option.bind_some, if_pos hc]
  | succ d ih =>
    intro i k hd hi hk
    obtain ⟨k, rfl⟩ := pred (show 0 < k by omega)
    have hlt : i < l.length := by omega
    have hx := h.2 _ (rd_mem l i hlt)
    have hrd : rdOf ByteArray.empty (l.map fun x => bs (Lib.itoa x)) (i : Int) = bs (Lib.itoa (rd l (i : Int))) := by
      unfold rdOf rd
      rw [Int.toNat_natCast, List.getD_eq_getElem?_getD, List.getD_eq_getElem?_getD, List.getElem?_map, List.getElem?_eq_getElem hlt]
      rfl
    have e : l.take i ++ [rd l (i : Int)] = l.take (i + 1) := by
      rw [List.take_add_one, List.getElem?_eq_getElem hlt]
      unfold rd
      rw [Int.toNat_natCast, List.getD_eq_getElem?_getD, List.getElem?_eq_getElem hlt]
      rfl
    simp only [row_Parse.l0]
    rw [if_pos (by rw [List.length_map]; omega), if_pos (by omega), if_pos (by rw [List.length_map]; omega), hrd, atoi_f hx, Option.bind_some]
    simp only [Option.isNone_none, if_true]
    rw [if_pos (by rw [List.length_take]; omega), e, wr1 hlt (by omega), ih (i + 1) k (by omega) (by omega) (by omega)]
theorem parse_j0 (ket : Bool) (c : UInt8) {l : List Int} (h : OKl l) (hc : chk l = 0) {k : Nat} (hk : 200 ≤ k) :
    row_Parse.j0 (k + 1) ([] : List Int) ket (bs (body l ++ [c])) (⟨#[c]⟩ : ByteArray) = some (l, ket, 0) := by
  have hl := h.1
  have hbl := body_len h
  simp only [row_Parse.j0]
  rw [cutS c (body l) (by omega), Option.bind_some, if_pos rfl]
  by_cases h0 : l = []
  · subst h0
    rw [if_pos (by rw [Lib.toList_data, bs_data]; rfl)]
  · have hne : l.map Lib.itoa ≠ [] := by simpa using h0
    have hbne : body l ≠ [] := by
      cases l with
      | nil => exact absurd rfl h0
      | cons a b =>
        unfold body
        rw [List.map_cons]
        cases b with
        | nil =>
          rw [List.map_nil, join_one]
          exact itoa_ne a
        | cons c d =>
          rw [List.map_cons, join_cons]
          simp
    have hsp := split_eq (l.map Lib.itoa) hne (by
      intro w hw
      obtain ⟨x, _, rfl⟩ := List.mem_map.1 hw
      exact itoa_sp x) (show (body l).length ≤ 100000 by omega) (by rw [List.length_map]; omega)
    have hm : (l.map Lib.itoa).map bs = l.map fun x => bs (Lib.itoa x) := by rw [List.map_map]; rfl
    rw [hm] at hsp
    have hsp' : strings_Split.f (bs (body l)) (⟨#[32]⟩ : ByteArray) = some (l.map fun x => bs (Lib.itoa x)) := hsp
    have hcf : ContainsFunc_76.f (l.map fun x => bs (Lib.itoa x)) = some false := by
      unfold ContainsFunc_76.f
      rw [if_pos]
      · congr 1
        rw [List.any_eq_false]
        intro s hs
        obtain ⟨x, _, rfl⟩ := List.mem_map.1 hs
        have : canonB (bs (Lib.itoa x)) = true := canon_itoa
        rw [this]
        decide
      · rw [List.all_eq_true]
        intro s hs
        obtain ⟨x, hx, rfl⟩ := List.mem_map.1 hs
        have := itoa_len (h.2 x hx)
        rw [bs_size]
        simp
        omega
    rw [if_neg (by rw [Lib.toList_data, bs_data]; exact hbne), hsp', Option.bind_some, hcf, Option.bind_some, if_neg (by decide)]
    have := parse_l ket l h hc l.length 0 k (by omega) (by omega) (by omega)
    simpa using this
theorem rowParse (ket : Bool) {l : List Int} (h : OKl l) (hc : chk l = 0) {k : Nat} (hk : 300 ≤ k) : row_Parse.f k (bs (full ket (body l))) = some (l, ket, 0) := by
  have hbl := body_len h
  obtain ⟨k, rfl⟩ := pred (show 0 < k by omega)
  unfold row_Parse.f
  rw [if_neg (by rw [bs_size]; unfold full; rw [List.length_append, List.length_cons]; simp; omega)]
  cases ket with
  | true =>
    have e : full true (body l) = 91 :: (body l ++ [62]) := by simp [full]
    rw [e, cutP, Option.bind_some, if_pos rfl]
    exact parse_j0 true 62 h hc (by omega)
  | false =>
    have e : full false (body l) = 60 :: (body l ++ [93]) := by simp [full]
    rw [e, cutP_ne (by decide), Option.bind_some, if_neg (by simp), cutP, Option.bind_some, if_pos rfl]
    exact parse_j0 false 93 h hc (by omega)
theorem RowTexts : schismalaw05_RowTexts.Pure := by
  intro l ket _ _ _
  by_cases hn : (l.length : Int) > 80
  · obtain ⟨K, hK⟩ : ∃ K : Nat, 5000 ≤ K := ⟨5000, Nat.le_refl _⟩
    refine ⟨K + 1, ?_⟩
    unfold schismalaw05_RowTexts.f
    rw [known_any (by omega), Option.bind_some, if_pos rfl, decide_eq_true hn]
    simp only [schismalaw05_RowTexts.j0, if_true]
    rw [known_any (by omega)]
    rfl
  · by_cases hc : chk l = 0
    · have h : OKl l := chk_ok hc
      have hl := h.1
      obtain ⟨K1, h1⟩ := refText ket h
      obtain ⟨K, hK⟩ : ∃ K : Nat, 5000 + K1 ≤ K := ⟨5000 + K1, Nat.le_refl _⟩
      refine ⟨K + 1, ?_⟩
      have e1 := h1 K (by omega)
      simp only at e1
      unfold schismalaw05_RowTexts.f
      rw [known_any (by omega), Option.bind_some, if_pos rfl, decide_eq_false hn]
      simp only [schismalaw05_RowTexts.j0, Bool.false_eq_true, if_false]
      rw [rowText ket h hc (by omega), Option.bind_some, refCheck l (by omega), Option.bind_some, if_pos hc]
      simp only
      rw [rowParse ket h hc (by omega), Option.bind_some, if_pos trivial, e1, Option.bind_some, if_pos rfl, if_pos rfl]
      rw [if_pos (by simp), refEqual l l (by omega) (by omega) (by omega), decide_eq_true rfl]
      rfl
    · obtain ⟨K, hK⟩ : ∃ K : Nat, 5000 ≤ K := ⟨5000, Nat.le_refl _⟩
      refine ⟨K + 1, ?_⟩
      unfold schismalaw05_RowTexts.f
      rw [known_any (by omega), Option.bind_some, if_pos rfl, decide_eq_false hn]
      simp only [schismalaw05_RowTexts.j0, Bool.false_eq_true, if_false]
      have ht : row_Text.f K l ket = some ((⟨#[]⟩ : ByteArray), chk l) := by
        unfold row_Text.f row_Check.f
        rw [Option.bind_some, if_neg hc]
      rw [ht, Option.bind_some, refCheck l (by omega), Option.bind_some, if_neg hc, if_pos (by rw [Lib.toList_data])]
      simp
end Go.Proofs.YtpbbekbdpodedaaDoor.Pure
