import Derived.Test.YtgmkokophcmbnaaV2
namespace Go.Proofs.Ytgmkokophcmbnaa
open Go.RowKit

/-- the law's look at a guarded list: behind it, how many parts of l it has met -/
noncomputable def chk (l : List Pt) : List (Pt × Option Nat) → Nat → Option Nat
  | [], k => some k
  | (p, none) :: r, k => open Classical in if p = paren then chk l r k else none
  | (p, some j) :: r, k => open Classical in if j = k ∧ l[k]? = some p then chk l r (k + 1) else none
theorem chk_append (l : List Pt) : ∀ (a b : List (Pt × Option Nat)) (k n : Nat), chk l a k = some n → chk l (a ++ b) k = chk l b n
  | [], b, k, n, h => by simp only [chk, Option.some.injEq] at h; rw [← h]; rfl
  | (p, none) :: a, b, k, n, h => by
    simp only [chk] at h
    split at h
    · rename_i hp
      rw [List.cons_append, chk, if_pos hp]; exact chk_append l a b k n h
    · cases h
  | (p, some j) :: a, b, k, n, h => by
    simp only [chk] at h
    split at h
    · rename_i hp
      rw [List.cons_append, chk, if_pos hp]; exact chk_append l a b (k + 1) n h
    · cases h
theorem chk_gl (l : List Pt) : ∀ (f : Fo) (p : Pt) (nth i : Nat) (rest : List Pt), l.drop i = f.flat ++ rest → chk l (gl f p nth i) i = some (i + f.size)
  | .nil, _, _, _, _, _ => rfl
  | .cons q k r, p, nth, i, rest, h => by
    have hq : l[i]? = some q := by
      have h0 : (l.drop i)[0]? = some q := by rw [h]; rfl
      simpa using h0
    have hd1 : l.drop (i + 1) = k.flat ++ (r.flat ++ rest) := by
      have : l.drop (i + 1) = (l.drop i).drop 1 := by rw [List.drop_drop]
      rw [this, h]; simp [Fo.flat]
    have hd2 : l.drop (i + 1 + k.size) = r.flat ++ rest := by
      have : l.drop (i + 1 + k.size) = (l.drop (i + 1)).drop k.size := by rw [List.drop_drop]
      rw [this, hd1, ← Fo.flat_len, List.drop_left]
    have h1 := chk_gl l k q 0 (i + 1) _ hd1
    have h2 := chk_gl l r p (nth + 1) (i + 1 + k.size) _ hd2
    have h3 : chk l ((q, some i) :: (gl k q 0 (i + 1) ++ gl r p (nth + 1) (i + 1 + k.size))) i = some (i + (Fo.cons q k r).size) := by
      rw [chk, if_pos ⟨rfl, hq⟩, chk_append l _ _ _ _ h1, h2]; simp only [Fo.size]; congr 1; omega
    simp only [gl]
    split
    · rw [List.singleton_append, chk, if_pos rfl]; exact h3
    · rw [List.nil_append]; exact h3
theorem chk_tree (q : Pt) (k : Fo) : chk (q :: k.flat) ((q, some 0) :: gl k q 0 1) 0 = some (q :: k.flat).length := by
  rw [chk, if_pos ⟨rfl, rfl⟩, chk_gl (q :: k.flat) k q 0 1 [] (by simp)]
  simp [Fo.flat_len]; omega
end Go.Proofs.Ytgmkokophcmbnaa
