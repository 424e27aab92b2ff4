import Derived.Test.YtgmkokophcmbnaaV8
import Derived.Test.YtgmkokophcmbnaaW9
namespace Go.Proofs.Ytgmkokophcmbnaa
open Go.RowKit

/-- is a kid looser than its place? -/
def flg (p q : Pt) (nth : Nat) : Bool := decide (levL q.k q.w < leastL p.k p.w nth)
def fset (B : Nat → Bool) (i : Nat) (x : Bool) : Nat → Bool := fun j => if j = i then x else B j
/-- the marks of the kids of one part -/
def upd (p : Pt) : Fo → Nat → Nat → (Nat → Bool) → Nat → Bool
  | .nil, _, _, B => B
  | .cons q k r, s, nth, B => upd p r (s + 1 + k.size) (nth + 1) (fset B s (flg p q nth))
/-- the marks that the parts of a row of trees set -/
def run : Fo → Nat → (Nat → Bool) → Nat → Bool
  | .nil, _, B => B
  | .cons q k r, s, B => run r (s + 1 + k.size) (run k (s + 1) (upd q k (s + 1) 0 B))
def Roots (F : Nat → Bool) : Fo → Nat → Pt → Nat → Prop
  | .nil, _, _, _ => True
  | .cons q k r, s, p, nth => F s = flg p q nth ∧ Roots F r (s + 1 + k.size) p (nth + 1)
def Ok (F : Nat → Bool) : Fo → Nat → Pt → Nat → Prop
  | .nil, _, _, _ => True
  | .cons q k r, s, p, nth => F s = flg p q nth ∧ Ok F k (s + 1) q 0 ∧ Ok F r (s + 1 + k.size) p (nth + 1)
theorem Roots.same {F G : Nat → Bool} : ∀ (f : Fo) (s : Nat) (p : Pt) (nth : Nat), (∀ j, s ≤ j → j < s + f.size → G j = F j) → Roots F f s p nth → Roots G f s p nth
  | .nil, _, _, _, _, _ => trivial
  | .cons q k r, s, p, nth, h, ⟨h1, h2⟩ => by
    simp only [Fo.size] at h
    exact ⟨(h s (Nat.le_refl _) (by omega)).trans h1, Roots.same r _ p _ (fun j a b => h j (by omega) (by omega)) h2⟩
theorem Ok.same {F G : Nat → Bool} : ∀ (f : Fo) (s : Nat) (p : Pt) (nth : Nat), (∀ j, s ≤ j → j < s + f.size → G j = F j) → Ok F f s p nth → Ok G f s p nth
  | .nil, _, _, _, _, _ => trivial
  | .cons q k r, s, p, nth, h, ⟨h1, h2, h3⟩ => by
    simp only [Fo.size] at h
    exact ⟨(h s (Nat.le_refl _) (by omega)).trans h1, Ok.same k _ q _ (fun j a b => h j (by omega) (by omega)) h2, Ok.same r _ p _ (fun j a b => h j (by omega) (by omega)) h3⟩
theorem upd_out (p : Pt) : ∀ (f : Fo) (s nth : Nat) (B : Nat → Bool) (j : Nat), (j < s ∨ s + f.size ≤ j) → upd p f s nth B j = B j
  | .nil, _, _, _, _, _ => rfl
  | .cons q k r, s, nth, B, j, h => by
    simp only [Fo.size] at h
    rw [upd, upd_out p r _ _ _ j (by omega), fset, if_neg (by omega)]
theorem upd_roots (p : Pt) : ∀ (f : Fo) (s nth : Nat) (B : Nat → Bool), Roots (upd p f s nth B) f s p nth
  | .nil, _, _, _ => trivial
  | .cons q k r, s, nth, B => by
    refine ⟨?_, ?_⟩
    · rw [upd, upd_out p r _ _ _ s (by omega), fset, if_pos rfl]
    · rw [upd]; exact upd_roots p r _ _ _
theorem run_ok : ∀ (f : Fo) (s : Nat) (p : Pt) (nth : Nat) (B : Nat → Bool), (∀ j, (j < s ∨ s + f.size ≤ j) → run f s B j = B j) ∧ (Roots B f s p nth → Ok (run f s B) f s p nth ∧ (f.size ≠ 0 → run f s B s = B s))
  | .nil, _, _, _, _ => ⟨fun _ _ => rfl, fun _ => ⟨trivial, fun h => absurd rfl h⟩⟩
  | .cons q k r, s, p, nth, B => by
    have hk := run_ok k (s + 1) q 0 (upd q k (s + 1) 0 B)
    have hr := run_ok r (s + 1 + k.size) p (nth + 1) (run k (s + 1) (upd q k (s + 1) 0 B))
    have hs : run (.cons q k r) s B s = B s := by
      rw [run, hr.1 s (by omega), hk.1 s (by omega), upd_out q k _ _ _ s (by omega)]
    refine ⟨fun j h => ?_, fun hR => ?_⟩
    · simp only [Fo.size] at h
      rw [run, hr.1 j (by omega), hk.1 j (by omega), upd_out q k _ _ _ j (by omega)]
    · obtain ⟨h1, h2⟩ := hR
      have ha : Roots (run k (s + 1) (upd q k (s + 1) 0 B)) r (s + 1 + k.size) p (nth + 1) := Roots.same r _ _ _ (fun j a b => by
        rw [hk.1 j (by omega), upd_out q k _ _ _ j (by omega)]) h2
      refine ⟨⟨hs.trans h1, ?_, ?_⟩, fun _ => hs⟩
      · rw [run]
        exact Ok.same k _ _ _ (fun j a b => hr.1 j (by omega)) (hk.2 (upd_roots q k _ _ _)).1
      · rw [run]; exact (hr.2 ha).1
def Fo.app : Fo → Fo → Fo
  | .nil, g => g
  | .cons p k r, g => .cons p k (r.app g)
theorem Fo.app_flat : ∀ f g : Fo, (f.app g).flat = f.flat ++ g.flat
  | .nil, _ => rfl
  | .cons p k r, g => by simp [Fo.app, Fo.flat, Fo.app_flat r]
theorem Fo.app_good : ∀ f g : Fo, f.good → g.good → (f.app g).good
  | .nil, _, _, h => h
  | .cons _ _ r, g, ⟨a, b, c⟩, h => ⟨a, b, Fo.app_good r g c h⟩
theorem run_app : ∀ (f g : Fo) (s : Nat) (B : Nat → Bool), run (f.app g) s B = run g (s + f.size) (run f s B)
  | .nil, _, _, _ => rfl
  | .cons q k r, g, s, B => by
    rw [Fo.app, run, run_app r, run, Fo.size]; congr 1; omega
/-- one part further -/
theorem run_step (q : Pt) (k r : Fo) (i : Nat) (B : Nat → Bool) : run (.cons q k r) i B = run (k.app r) (i + 1) (upd q k (i + 1) 0 B) := by
  rw [run_app]; rfl
/-- what the last loop puts out -/
def outG (F : Nat → Bool) : List Pt → Nat → List (Pt × Option Nat)
  | [], _ => []
  | q :: t, i => (if F i then [(paren, none)] else []) ++ (q, some i) :: outG F t (i + 1)
theorem outG_gl (F : Nat → Bool) : ∀ (f : Fo) (s : Nat) (p : Pt) (nth : Nat) (rest : List Pt), Ok F f s p nth → outG F (f.flat ++ rest) s = gl f p nth s ++ outG F rest (s + f.size)
  | .nil, _, _, _, _, _ => rfl
  | .cons q k r, s, p, nth, rest, ⟨h1, h2, h3⟩ => by
    have e1 : (Fo.cons q k r).flat ++ rest = q :: (k.flat ++ (r.flat ++ rest)) := by simp [Fo.flat]
    have e2 : s + 1 + k.size + r.size = s + (Fo.cons q k r).size := by simp only [Fo.size]; omega
    rw [e1, outG, outG_gl F k _ q 0 _ h2, outG_gl F r _ p _ _ h3, e2, gl, h1, flg]
    simp
/-- the marks of a tree -/
def finF (q : Pt) (k : Fo) : Nat → Bool := run (.cons q k .nil) 0 (fun _ => false)
theorem outG_guard (q : Pt) (k : Fo) : outG (finF q k) (q :: k.flat) 0 = guardO q k := by
  have hk := run_ok k 1 q 0 (upd q k 1 0 (fun _ => false))
  have e : finF q k = run k 1 (upd q k 1 0 (fun _ => false)) := rfl
  have h0 : finF q k 0 = false := by rw [e, hk.1 0 (by omega), upd_out q k _ _ _ 0 (by omega)]
  have h1 := outG_gl (finF q k) k 1 q 0 [] (by rw [e]; exact (hk.2 (upd_roots q k _ _ _)).1)
  rw [outG, h0, guardO]
  rw [List.append_nil] at h1
  simp only [Nat.zero_add]
  rw [h1]; simp [outG]
theorem outG_len (F : Nat → Bool) : ∀ (l : List Pt) (i : Nat), (outG F l i).length ≤ 2 * l.length
  | [], _ => by simp [outG]
  | q :: t, i => by
    have := outG_len F t (i + 1)
    simp only [outG, List.length_append, List.length_cons]
    split <;> simp <;> omega
end Go.Proofs.Ytgmkokophcmbnaa
