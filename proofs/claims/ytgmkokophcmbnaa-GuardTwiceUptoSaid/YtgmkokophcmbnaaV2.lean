import Derived.Test.YtgmkokophcmbnaaV1
import Derived.Test.YtgmkokophcmbnaaW4
namespace Go.Proofs.Ytgmkokophcmbnaa
open Go.RowKit

def Fo.take : Nat → Fo → Fo
  | 0, _ => .nil
  | _ + 1, .nil => .nil
  | n + 1, .cons p k r => .cons p k (r.take n)
def Fo.drop : Nat → Fo → Fo
  | 0, f => f
  | _ + 1, .nil => .nil
  | n + 1, .cons _ _ r => r.drop n
theorem Fo.split : ∀ (n : Nat) (f : Fo), n ≤ f.count → f.good → f.flat = (f.take n).flat ++ (f.drop n).flat ∧ (f.take n).good ∧ (f.drop n).good ∧ (f.take n).count = n ∧ (f.drop n).count = f.count - n := by
  intro n
  induction n with
  | zero => intro f _ hg; simp [Fo.take, Fo.drop, Fo.flat, Fo.good, Fo.count, hg]
  | succ n ih =>
    intro f h hg
    cases f with
    | nil => simp [Fo.count] at h
    | cons p k r =>
      obtain ⟨h1, h2, h3⟩ := hg
      obtain ⟨a1, a2, a3, a4, a5⟩ := ih r (by simp only [Fo.count] at h; omega) h3
      refine ⟨?_, ⟨h1, h2, a2⟩, a3, ?_, ?_⟩
      · simp only [Fo.take, Fo.drop, Fo.flat]; rw [a1]; simp
      · simp [Fo.take, Fo.count, a4]
      · simp only [Fo.drop, Fo.count]; rw [a5]; omega
theorem ends_forest : ∀ (l : List Pt) (i : Nat) (o st : List Nat), endsL (l.map Pt.n) i = some (o, st) → ∃ f : Fo, f.flat = l ∧ f.good ∧ f.count = st.length := by
  intro l
  induction l with
  | nil => intro i o st h; simp only [List.map_nil, endsL, Option.some.injEq, Prod.mk.injEq] at h; exact ⟨.nil, rfl, trivial, by rw [← h.2]; rfl⟩
  | cons p r ih =>
    intro i o st h
    rw [List.map_cons, endsL] at h
    cases hr : endsL (r.map Pt.n) (i + 1) with
    | none => rw [hr] at h; cases h
    | some x =>
      obtain ⟨o1, st1⟩ := x
      rw [hr] at h
      simp only [] at h
      split at h
      · rename_i hk
        obtain ⟨f, h1, h2, h3⟩ := ih _ _ _ hr
        simp only [Option.some.injEq, Prod.mk.injEq] at h
        obtain ⟨n, hn⟩ := Int.eq_ofNat_of_zero_le hk.1
        obtain ⟨a1, a2, a3, a4, a5⟩ := Fo.split n f (by omega) h2
        refine ⟨.cons p (f.take n) (f.drop n), ?_, ⟨by rw [a4, hn], a2, a3⟩, ?_⟩
        · simp only [Fo.flat]; rw [← a1, h1]
        · rw [← h.2, hn]; simp [Fo.count, a5, h3]
      · cases h
theorem well_forest (l : List Pt) (h : wellL (l.map Pt.n) = true) : ∃ (q : Pt) (k : Fo), l = q :: k.flat ∧ (k.count : Int) = q.n ∧ k.good := by
  unfold wellL at h
  cases hr : endsL (l.map Pt.n) 0 with
  | none => rw [hr] at h; cases h
  | some x =>
    obtain ⟨o, st⟩ := x
    rw [hr] at h
    obtain ⟨f, h1, h2, h3⟩ := ends_forest l 0 o st hr
    cases f with
    | nil => simp [Fo.count] at h3; simp [← h3] at h
    | cons q k r =>
      have hst : st.length = 1 := by simpa using h
      have hr0 : r = .nil := by
        cases r with
        | nil => rfl
        | cons _ _ _ => simp only [Fo.count] at h3; omega
      subst hr0
      obtain ⟨g1, g2, _⟩ := h2
      exact ⟨q, k, by rw [← h1]; simp [Fo.flat], g1, g2⟩
end Go.Proofs.Ytgmkokophcmbnaa
