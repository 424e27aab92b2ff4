import Derived.Test.YtgmkokophcmbnaaW2
namespace Go.Proofs.Ytgmkokophcmbnaa
open Go.RowKit

/-- trees in a row -/
inductive Fo where
  | nil : Fo
  | cons (p : Pt) (kids rest : Fo) : Fo
def Fo.flat : Fo → List Pt
  | .nil => []
  | .cons p k r => p :: (k.flat ++ r.flat)
def Fo.size : Fo → Nat
  | .nil => 0
  | .cons _ k r => 1 + k.size + r.size
def Fo.count : Fo → Nat
  | .nil => 0
  | .cons _ _ r => r.count + 1
def Fo.good : Fo → Prop
  | .nil => True
  | .cons p k r => (k.count : Int) = p.n ∧ k.good ∧ r.good
theorem Fo.flat_len : ∀ f : Fo, f.flat.length = f.size
  | .nil => rfl
  | .cons p k r => by simp [Fo.flat, Fo.size, Fo.flat_len k, Fo.flat_len r]; omega
def paren : Pt := ⟨28, 1, []⟩
/-- the guarded kids of p, from the nth on, that begin at i -/
def gl : Fo → Pt → Nat → Nat → List (Pt × Option Nat)
  | .nil, _, _, _ => []
  | .cons q k r, p, nth, i => (if levL q.k q.w < leastL p.k p.w nth then [(paren, none)] else []) ++ (q, some i) :: (gl k q 0 (i + 1) ++ gl r p (nth + 1) (i + 1 + k.size))
def ptsOf (o : List (Pt × Option Nat)) : List Pt := o.map Prod.fst
def numOf (fr : List Int) (x : Option Nat) : Int := match x with | none => -1 | some i => fr.getD i 0
def numsOf (fr : List Int) (o : List (Pt × Option Nat)) : List Int := o.map fun x => numOf fr x.2
theorem gl_len : ∀ (f : Fo) (p : Pt) (nth i : Nat), (gl f p nth i).length ≤ 2 * f.size
  | .nil, _, _, _ => by simp [gl]
  | .cons q k r, p, nth, i => by
    have h1 := gl_len k q 0 (i + 1)
    have h2 := gl_len r p (nth + 1) (i + 1 + k.size)
    simp only [gl, Fo.size, List.length_append, List.length_cons]
    split <;> simp <;> omega
end Go.Proofs.Ytgmkokophcmbnaa
