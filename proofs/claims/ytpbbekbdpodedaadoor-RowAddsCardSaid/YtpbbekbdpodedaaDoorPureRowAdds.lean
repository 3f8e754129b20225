import Derived.Test.YtpbbekbdpodedaaDoorPR13
import Derived.Test.YtpbbekbdpodedaaDoorPL3
namespace Go.Proofs.YtpbbekbdpodedaaDoor.Pure
open Go.RowKit Go.Proofs.YtpbbekbdpodedaaDoor Go.Proofs.YtpbbekbdpodedaaDoor.PR Go.Proofs.YtpbbekbdpodedaaDoor.PL Go.Proofs.YtpbbekbdpodedaaDoorW.PrintWords Go.Proofs.YtpbbekbdpodedaaDoorW.PrintLast H
set_option linter.unusedVariables false
set_option linter.unusedSimpArgs false

theorem same_eq (got : List Int) (e : Int) (want : List Int) (ok : Bool) (h1 : got.length ≤ 100) (h2 : want.length ≤ 100) {k : Nat} (hk : 300 ≤ k) (h : if ok = true then e = 0 ∧ got = want else got = [] ∧ e = 4) :
    schismalaw05_same.f k got e want ok = some true := by
  unfold schismalaw05_same.f
  cases ok with
  | true =>
    rw [if_pos rfl] at h ⊢
    rw [if_pos h.1, refEqual got want (by omega) (by omega) (by omega), decide_eq_true h.2]
    rfl
  | false =>
    rw [if_neg (by decide)] at h ⊢
    rw [if_pos (by rw [h.1]; rfl), h.2]
    rfl
/-- A row out of right elements, checked: as the reference's Combine tells it. -/
theorem same_comb (L : List Int) (hL : L.length ≤ 64) {k : Nat} (hk : 300 ≤ k) : schismalaw05_same.f k (okR L) (chk L) (combR [] L).1 (combR [] L).2 = some true := by
  have hc := all_chk hL
  unfold okR combR
  by_cases h : L.all fitB = true
  · rw [if_pos h] at hc
    rw [if_pos hc, if_pos h, hc]
    exact same_eq _ _ _ _ (by omega) (by simp; omega) hk (by simp)
  · rw [if_neg h] at hc
    rw [if_neg (by rw [hc]; decide), if_neg h, hc]
    exact same_eq _ _ _ _ (by simp) (by simp) hk (by simp)
theorem map_mul {l : List Int} (h : chk l = 0) {a : Int} (ha : fitB a = true) : (l.map fun x => wrap64 (a * x)) = l.map fun x => x * a := by
  apply List.map_congr_left
  intro x hx
  have hb := chk_fits h x hx
  have ha' : -1000000000 ≤ a ∧ a ≤ 1000000000 := by simpa [fitB] using ha
  have := mul_small ha' hb
  rw [Int.mul_comm x a]
  unfold wrap64
  omega
theorem map_add {a b : List Int} (h : bth a b = 0) : addL (a.zip b) = (a.zip b).map fun x => x.1 * 1 + x.2 * 1 := by
  unfold addL
  apply List.map_congr_left
  intro x hx
  have hb := (zip_bounds h).2 x hx
  unfold wrap64
  omega
theorem map_sub {a b : List Int} (h : bth a b = 0) : subL (a.zip b) = (a.zip b).map fun x => x.1 * 1 + x.2 * -1 := by
  unfold subL
  apply List.map_congr_left
  intro x hx
  have hb := (zip_bounds h).2 x hx
  unfold wrap64
  omega
theorem zro_eq {l : List Int} (h : zro l = true) : l = List.replicate l.length 0 := by
  rw [zro_iff] at h
  exact List.eq_replicate_iff.2 ⟨rfl, h⟩
theorem scale_same {l : List Int} (h : chk l = 0) (a : Int) {k : Nat} (hk : 300 ≤ k) : schismalaw05_same.f k (scaleR l a).1 (scaleR l a).2 (scaleT l a).1 (scaleT l a).2 = some true := by
  obtain ⟨hl, hb⟩ := chk_ok h
  unfold scaleR scaleT
  rw [if_pos h]
  by_cases hf : fitB a = true
  · rw [if_pos hf, if_pos hf, map_mul h hf]
    by_cases hz : zro l = true
    · rw [if_pos hz]
      have e : (l.map fun x => x * a) = l := by
        have := (zro_iff l).1 hz
        conv => rhs; rw [← List.map_id l]
        apply List.map_congr_left
        intro x hx
        rw [this x hx]
        simp
      rw [e, h]
      unfold okR
      rw [if_pos h]
      exact same_eq _ _ _ _ (by dsimp only; omega) (by dsimp only; omega) hk (by simp)
    · rw [if_neg hz]
      exact same_comb _ (by simp; omega) hk
  · rw [if_neg hf, if_neg hf]
    by_cases hz : zro l = true
    · rw [if_pos hz, if_pos hz]
      exact same_eq _ _ _ _ (by simp; omega) (by dsimp only; omega) hk (by rw [if_pos rfl]; exact ⟨rfl, (zro_eq hz).symm⟩)
    · rw [if_neg hz, if_neg hz]
      exact same_eq _ _ _ _ (by simp) (by simp) hk (by simp)
theorem neg_eq {l : List Int} (h : chk l = 0) : scaleR l (-1) = (l.map (fun x => wrap64 (-x)), 0) := by
  obtain ⟨hl, hb⟩ := chk_ok h
  have e : (l.map fun x => wrap64 (-1 * x)) = l.map fun x => wrap64 (-x) := by
    apply List.map_congr_left
    intro x hx
    rw [show -1 * x = -x from by omega]
  have hc : chk (l.map fun x => wrap64 (-x)) = 0 := by
    rw [all_chk (by simp; omega), if_pos]
    rw [List.all_eq_true]
    intro y hy
    obtain ⟨x, hx, rfl⟩ := List.mem_map.1 hy
    have := hb x hx
    exact fitB_true (by unfold wrap64; omega) (by unfold wrap64; omega)
  unfold scaleR
  rw [if_pos h, if_pos (by decide), e, hc]
  unfold okR
  rw [if_pos hc]

theorem refEqSelf (l : List Int) (h : l.length ≤ 100) {k : Nat} (hk : 300 ≤ k) : schismaref05_Equal.f k l l = some true := by
  rw [refEqual l l (by omega) (by omega) (by omega)]
  simp
theorem RowAdds : schismalaw05_RowAdds.Pure := by
  intro a b z _ _ _ _ _ _ _
  obtain ⟨K, hK⟩ : ∃ K : Nat, 3000 ≤ K := ⟨3000, Nat.le_refl _⟩
  refine ⟨K + 5, ?_⟩
  unfold schismalaw05_RowAdds.f
  rw [known_any (by omega)]
  simp only [Option.bind_some, if_true]
  by_cases ha : (a.length : Int) > 80
  · as_aux_lemma =>
    rw [if_pos ha]
    simp only [schismalaw05_RowAdds.j0, if_true]
    rw [known_any (by omega)]
    rfl
  · rw [if_neg ha]
    by_cases hb : (b.length : Int) > 80
    · as_aux_lemma =>
      rw [decide_eq_true hb]
      simp only [schismalaw05_RowAdds.j0, if_true]
      rw [known_any (by omega)]
      rfl
    · rw [decide_eq_false hb]
      simp only [schismalaw05_RowAdds.j0, Bool.false_eq_true, if_false]
      rw [rowScale a z (by omega), refCheck a (by omega), refCheck b (by omega)]
      have hneg : row_Neg.f (K + 4) a = some (scaleR a (-1)) := by unfold row_Neg.f; rw [rowScale a (-1) (by omega)]; generalize scaleR a (-1) = p; cases p; rfl
      rw [hneg]
      simp only [row_Add.f, row_Sub.f, Option.bind_some]
      by_cases hc : chk a = 0
      · obtain ⟨hl, hbd⟩ := chk_ok hc
        rw [if_pos hc, refScale hc z (by omega), neg_eq hc, refNeg a (by omega) (by omega)]
        simp only [Option.bind_some, if_true]
        rw [refEqSelf _ (by simp; omega) (by omega), Option.bind_some, if_pos rfl, scale_same hc z (by omega), Option.bind_some]
        simp only [Bool.not_true, schismalaw05_RowAdds.j1, Bool.false_eq_true, if_false]
        have key : ∀ (k : Nat) (want : Int), 2000 ≤ k → want = bth a b → schismalaw05_RowAdds.j3 k a b (addR (addL (a.zip b)) (bth a b)).1 (addR (addL (a.zip b)) (bth a b)).2 (addR (subL (a.zip b)) (bth a b)).1 (addR (subL (a.zip b)) (bth a b)).2 want = some true := by
          as_aux_lemma =>
          intro k want hk hw
          subst hw
          obtain ⟨k, rfl⟩ := pred (show 0 < k by omega)
          simp only [schismalaw05_RowAdds.j3]
          by_cases h0 : bth a b = 0
          · obtain ⟨c0, c1, c2⟩ := bth_ok h0
            have ok1 : RowsOK a.length [a, b] [1, 1] := ⟨by simp [c2], by
              intro r hr x hx
              simp only [List.mem_cons, List.mem_nil_iff, or_false] at hr
              rcases hr with rfl | rfl
              · exact chk_fits c0 x hx
              · exact chk_fits c1 x hx, by simp, rfl, by simp, by omega⟩
            have ok2 : RowsOK a.length [a, b] [1, -1] := ⟨ok1.len, ok1.els, by simp, rfl, by simp, by omega⟩
            have hA : schismaref05_Add.f k a b = some (combR [] (addL (a.zip b))) := by
              unfold schismaref05_Add.f
              rw [refCombine ok1 (by simp) (by simp; omega), cols_two a b 1 1 c2 a.length 0 (by omega) (by omega), map_add h0]
              simp
            have hS : schismaref05_Sub.f k a b = some (combR [] (subL (a.zip b))) := by
              unfold schismaref05_Sub.f
              rw [refCombine ok2 (by simp) (by simp; omega), cols_two a b 1 (-1) c2 a.length 0 (by omega) (by omega), map_sub h0]
              simp
            have la : (addL (a.zip b)).length ≤ 64 := by rw [addL_length]; exact (zip_bounds h0).1
            have ls : (subL (a.zip b)).length ≤ 64 := by rw [subL_length]; exact (zip_bounds h0).1
            rw [if_pos h0, hA, hS, h0]
            simp only [Option.bind_some, addR, if_true]
            rw [same_comb _ la (by omega)]
            simp only [Option.bind_some, if_true]
            rw [same_comb _ ls (by omega)]
            rfl
          · rw [if_neg h0]
            simp [addR, h0, wrap64]
        by_cases h1 : chk b = 0
        · as_aux_lemma =>
          rw [if_pos h1]
          simp only [schismalaw05_RowAdds.j2]
          by_cases h2 : a.length = b.length
          · rw [show ((a.length : Int) != (b.length : Int)) = false from by simp [h2], if_neg (by decide)]
            exact key _ _ (by omega) (by unfold bth; rw [if_pos hc, if_pos h1, if_pos h2, h1])
          · rw [show ((a.length : Int) != (b.length : Int)) = true from by simp; omega, if_pos rfl]
            exact key _ _ (by omega) (by unfold bth; rw [if_pos hc, if_pos h1, if_neg h2])
        · as_aux_lemma =>
          rw [if_neg h1]
          simp only [schismalaw05_RowAdds.j2]
          rw [if_neg (by decide)]
          exact key _ _ (by omega) (by unfold bth; rw [if_pos hc, if_neg h1])
      · as_aux_lemma =>
        have hd : bth a b = chk a := by unfold bth; rw [if_neg hc]
        rw [if_neg hc]
        simp [addR, scaleR, hd, hc, wrap64]
end Go.Proofs.YtpbbekbdpodedaaDoor.Pure
