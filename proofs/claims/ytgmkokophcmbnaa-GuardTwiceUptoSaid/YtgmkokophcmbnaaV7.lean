import Derived.Test.YtgmkokophcmbnaaV4
import Derived.Test.YtgmkokophcmbnaaV6
namespace Go.Proofs.Ytgmkokophcmbnaa
open Go.RowKit

/-- the reference's Well is the program's -/
theorem well_ref (l : List Pt) : wellL (l.map Pt.n) = (endN l.length (l.map Pt.n) 1 == some l.length) := by
  rw [Bool.eq_iff_iff, beq_iff_eq]
  constructor
  · intro h
    obtain ⟨q, k, h1, h2, h3⟩ := well_forest l h
    have hs : l.length = k.size + 1 := by rw [h1, List.length_cons, Fo.flat_len]
    have := endN_forest l.length (.cons q k .nil) [] 0 ⟨h2, h3, trivial⟩ (by simp only [Fo.size]; omega)
    have e : (Fo.cons q k .nil).flat ++ [] = l := by rw [h1]; simp [Fo.flat]
    rw [e] at this
    have h0 : endN l.length (List.map Pt.n []) 0 = some 0 := rfl
    rw [h0] at this
    rw [show (Fo.cons q k .nil).count + 0 = 1 from rfl] at this
    rw [this, Option.map_some]; simp only [Fo.size]; congr 1; omega
  · intro h
    obtain ⟨f, h1, h2, h3⟩ := endN_back l.length l 1 h
    cases f with
    | nil => simp [Fo.count] at h3
    | cons q k r =>
      cases r with
      | cons _ _ _ => simp only [Fo.count] at h3; omega
      | nil =>
        have := tree_well q k h2.1 h2.2.1
        rw [← h1]
        simpa [Fo.flat] using this
end Go.Proofs.Ytgmkokophcmbnaa
