import Derived.Test.YtgmkokophcmbnaaV2
namespace Go.Proofs.Ytgmkokophcmbnaa
open Go.RowKit

/-- how many parts the reference's End walks over, from a list's beginning, where so many trees are wanted -/
def endN (L : Nat) : List Int → Nat → Option Nat
  | _, 0 => some 0
  | [], _ + 1 => none
  | k :: r, n + 1 => if k < 0 ∨ (L : Int) < k then none else (endN L r (n + k.toNat)).map (· + 1)
theorem endN_forest (L : Nat) : ∀ (f : Fo) (rest : List Pt) (n : Nat), f.good → f.size ≤ L → endN L ((f.flat ++ rest).map Pt.n) (f.count + n) = (endN L (rest.map Pt.n) n).map (· + f.size)
  | .nil, rest, n, _, _ => by simp only [Fo.flat, Fo.count, Fo.size, List.nil_append, Nat.zero_add]; cases endN L (rest.map Pt.n) n <;> rfl
  | .cons p k r, rest, n, ⟨h1, h2, h3⟩, hs => by
    have hk := endN_forest L k (r.flat ++ rest) (r.count + n) h2 (by simp only [Fo.size] at hs; omega)
    have hr := endN_forest L r rest n h3 (by simp only [Fo.size] at hs; omega)
    have hc : k.count ≤ k.size := by
      have : ∀ f : Fo, f.count ≤ f.size := fun f => by
        induction f with
        | nil => exact Nat.le_refl _
        | cons _ _ _ _ ih => simp only [Fo.count, Fo.size]; omega
      exact this k
    simp only [Fo.size] at hs
    have hn : ¬ (p.n < 0 ∨ (L : Int) < p.n) := by omega
    have ht : p.n.toNat = k.count := by omega
    simp only [Fo.flat, List.cons_append, List.append_assoc, List.map_cons, Fo.count]
    rw [show r.count + 1 + n = (r.count + n) + 1 from by omega, endN, if_neg hn, ht, Nat.add_comm (r.count + n) k.count, hk, hr]
    cases endN L (rest.map Pt.n) n with
    | none => rfl
    | some x => simp [Fo.size]; omega
theorem endN_le (L : Nat) : ∀ (ks : List Int) (n c : Nat), endN L ks n = some c → c ≤ ks.length
  | _, 0, c, h => by simp only [endN, Option.some.injEq] at h; omega
  | [], n + 1, c, h => by simp [endN] at h
  | k :: r, n + 1, c, h => by
    rw [endN] at h
    split at h
    · cases h
    · cases hr : endN L r (n + k.toNat) with
      | none => rw [hr] at h; cases h
      | some x => rw [hr] at h; have := endN_le L r _ x hr; simp at h; simp; omega
/-- what End walks over whole is so many trees -/
theorem endN_back (L : Nat) : ∀ (l : List Pt) (n : Nat), endN L (l.map Pt.n) n = some l.length → ∃ f : Fo, f.flat = l ∧ f.good ∧ f.count = n
  | [], 0, _ => ⟨.nil, rfl, trivial, rfl⟩
  | _ :: _, 0, h => by simp [endN] at h
  | [], _ + 1, h => by simp [endN] at h
  | p :: r, n + 1, h => by
    rw [List.map_cons, endN] at h
    split at h
    · cases h
    · rename_i hk
      cases hr : endN L (r.map Pt.n) (n + p.n.toNat) with
      | none => rw [hr] at h; cases h
      | some x =>
        rw [hr] at h
        have hx : x = r.length := by simpa using h
        subst hx
        obtain ⟨f, h1, h2, h3⟩ := endN_back L r _ hr
        obtain ⟨a1, a2, a3, a4, a5⟩ := Fo.split p.n.toNat f (by omega) h2
        refine ⟨.cons p (f.take p.n.toNat) (f.drop p.n.toNat), ?_, ⟨by rw [a4]; omega, a2, a3⟩, ?_⟩
        · simp only [Fo.flat]; rw [← a1, h1]
        · simp only [Fo.count]; omega
end Go.Proofs.Ytgmkokophcmbnaa
