import Derived.Test.YtgmkokophcmbnaaX4
namespace Go.Proofs.Ytgmkokophcmbnaa
open Go.RowKit

/-- where the trees of a row begin -/
def starts : Fo → Nat → List Nat
  | .nil, _ => []
  | .cons _ k r, i => i :: starts r (i + 1 + k.size)
theorem starts_len : ∀ (f : Fo) (i : Nat), (starts f i).length = f.count
  | .nil, _ => rfl
  | .cons _ k r, i => by simp [starts, Fo.count, starts_len r]
theorem endR_tree (l : List Pt) (i : Nat) (q : Pt) (k : Fo) (rest : List Pt) (h : l.drop i = q :: (k.flat ++ rest)) (hk : (k.count : Int) = q.n) (hg : k.good) : endR l i = ((i + 1 + k.size : Nat) : Int) := by
  have hs : (1 + k.size) + rest.length = l.length - i := by
    have := congrArg List.length h
    simp only [List.length_drop, List.length_cons, List.length_append, Fo.flat_len] at this
    omega
  have := endN_forest l.length (.cons q k .nil) rest 0 ⟨hk, hg, trivial⟩ (by simp only [Fo.size]; omega)
  have e : (Fo.cons q k .nil).flat ++ rest = l.drop i := by rw [h]; simp [Fo.flat]
  rw [e, show (Fo.cons q k .nil).count + 0 = 1 from rfl] at this
  have h0 : endN l.length (List.map Pt.n rest) 0 = some 0 := by cases rest <;> rfl
  rw [h0, Option.map_some, List.map_drop] at this
  unfold endR
  rw [this]
  simp only [Fo.size]; congr 1; omega
end Go.Proofs.Ytgmkokophcmbnaa
