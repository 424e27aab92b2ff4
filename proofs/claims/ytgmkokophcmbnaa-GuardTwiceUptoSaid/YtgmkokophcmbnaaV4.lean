import Derived.Test.YtgmkokophcmbnaaV2
namespace Go.Proofs.Ytgmkokophcmbnaa
open Go.RowKit

/-- the guarded forest -/
def gf : Fo → Pt → Nat → Fo
  | .nil, _, _ => .nil
  | .cons q k r, p, nth => if levL q.k q.w < leastL p.k p.w nth then .cons paren (.cons q (gf k q 0) .nil) (gf r p (nth + 1)) else .cons q (gf k q 0) (gf r p (nth + 1))
theorem gf_flat : ∀ (f : Fo) (p : Pt) (nth i : Nat), (gf f p nth).flat = ptsOf (gl f p nth i)
  | .nil, _, _, _ => rfl
  | .cons q k r, p, nth, i => by
    have h1 := gf_flat k q 0 (i + 1)
    have h2 := gf_flat r p (nth + 1) (i + 1 + k.size)
    simp only [gf, gl]
    split <;> simp [Fo.flat, h1, h2, ptsOf]
theorem gf_count : ∀ (f : Fo) (p : Pt) (nth : Nat), (gf f p nth).count = f.count
  | .nil, _, _ => rfl
  | .cons q k r, p, nth => by
    have h2 := gf_count r p (nth + 1)
    simp only [gf]
    split <;> simp [Fo.count, h2]
theorem gf_good : ∀ (f : Fo) (p : Pt) (nth : Nat), f.good → (gf f p nth).good
  | .nil, _, _, _ => trivial
  | .cons q k r, p, nth, ⟨h1, h2, h3⟩ => by
    have a1 := gf_good k q 0 h2
    have a2 := gf_good r p (nth + 1) h3
    have a3 := gf_count k q 0
    simp only [gf]
    split
    · exact ⟨rfl, ⟨by rw [a3]; exact h1, a1, trivial⟩, a2⟩
    · exact ⟨by rw [a3]; exact h1, a1, a2⟩
theorem least_le (k : UInt8) (w : List UInt8) (nth : Int) : leastL k w nth ≤ 7 := by
  have hl : k = 37 → levL k w ≤ 6 := by
    intro e; subst e
    have := levB_bd w 5 0 (by omega)
    unfold levL; simp; omega
  unfold leastL
  split
  · rename_i h; have := hl h; split
    · omega
    · split <;> omega
  · split
    · omega
    · split
      · split <;> omega
      · split
        · split <;> omega
        · omega
theorem lev_paren : levL paren.k paren.w = 7 := by kernel_rfl
theorem least_paren (nth : Int) : leastL paren.k paren.w nth = 0 := by
  simp [leastL, paren]
/-- a guarded forest wants no more -/
theorem gf_again : ∀ (f : Fo) (p : Pt) (nth i : Nat), ptsOf (gl (gf f p nth) p nth i) = (gf f p nth).flat
  | .nil, _, _, _ => rfl
  | .cons q k r, p, nth, i => by
    simp only [gf]
    split
    · rename_i h
      have h1 := gf_again k q 0 (i + 1 + 1)
      have h2 := gf_again r p (nth + 1) (i + 1 + (Fo.cons q (gf k q 0) .nil).size)
      have l1 := least_le p.k p.w nth
      have l2 := lev_bd q.k q.w
      have e1 : ¬ (levL paren.k paren.w < leastL p.k p.w nth) := by rw [lev_paren]; omega
      have e2 : ¬ (levL q.k q.w < leastL paren.k paren.w ((0 : Nat) : Int)) := by rw [least_paren]; omega
      simp only [gl, if_neg e1, if_neg e2, Fo.flat]
      simp only [ptsOf, List.map_append, List.map_cons, List.nil_append, List.append_nil] at h1 h2 ⊢
      rw [h1, h2]
    · rename_i h
      have h1 := gf_again k q 0 (i + 1)
      have h2 := gf_again r p (nth + 1) (i + 1 + (gf k q 0).size)
      simp only [gl, if_neg h, Fo.flat]
      simp only [ptsOf, List.map_append, List.map_cons, List.nil_append] at h1 h2 ⊢
      rw [h1, h2]
/-- a forest is found by ends -/
theorem forest_ends : ∀ (f : Fo) (rest : List Pt) (i : Nat) (o st : List Nat), f.good → endsL (rest.map Pt.n) (i + f.size) = some (o, st) →
    ∃ o' st', endsL ((f.flat ++ rest).map Pt.n) i = some (o', st') ∧ st'.length = f.count + st.length
  | .nil, rest, i, o, st, _, h => ⟨o, st, by simpa [Fo.flat, Fo.size] using h, by simp [Fo.count]⟩
  | .cons p k r, rest, i, o, st, ⟨h1, h2, h3⟩, h => by
    obtain ⟨o1, st1, a1, a2⟩ := forest_ends r rest (i + 1 + k.size) o st h3 (by rw [← h]; congr 1; simp only [Fo.size]; omega)
    obtain ⟨o2, st2, b1, b2⟩ := forest_ends k (r.flat ++ rest) (i + 1) o1 st1 h2 a1
    have e : endsL (((Fo.cons p k r).flat ++ rest).map Pt.n) i = some ((if p.n = 0 then i + 1 else o2.getD (st2.getD (p.n.toNat - 1) 0 - (i + 1)) 0) :: o2, i :: st2.drop p.n.toNat) := by
      simp only [Fo.flat, List.cons_append, List.append_assoc, List.map_cons]
      rw [endsL, b1]
      simp only []
      rw [if_pos ⟨by omega, by omega⟩]
    exact ⟨_, _, e, by simp only [List.length_cons, List.length_drop, Fo.count]; omega⟩
theorem tree_well (q : Pt) (k : Fo) (h : (k.count : Int) = q.n) (hg : k.good) : wellL ((q :: k.flat).map Pt.n) = true := by
  obtain ⟨o, st, h1, h2⟩ := forest_ends (.cons q k .nil) [] 0 [] [] ⟨h, hg, trivial⟩ (by simp [endsL])
  have e : (Fo.cons q k .nil).flat ++ [] = q :: k.flat := by simp [Fo.flat]
  rw [e] at h1
  unfold wellL
  rw [h1]
  simp [h2, Fo.count]
end Go.Proofs.Ytgmkokophcmbnaa
