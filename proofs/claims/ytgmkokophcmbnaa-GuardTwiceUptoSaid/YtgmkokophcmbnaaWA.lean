import Derived.Test.YtgmkokophcmbnaaW9
namespace Go.Proofs.Ytgmkokophcmbnaa
open Go.RowKit

def zeros (n : Nat) : List Int := List.replicate n 0
/-- what Put answers -/
def PutOk (q : Pt) (k : Fo) (w : World) (e : Ending) (w' : World) : Prop :=
  Below w.heap.size w w' ∧ ∃ vo, e = .returned (.tuple #[vo, .int .i64 0]) ∧ w'.ownsRow w.heap.size 23 3 vo (ptsOf (guardO q k)).length (pcells (ptsOf (guardO q k)))
theorem IntsAt_made {w : World} {base g n : Nat} (h : w.ownsRow base 3 1 (.slice (some ⟨g, 0, none⟩) n n) n (zer n)) (hn : g < w.heap.size) : IntsAt w (some ⟨g, 0, none⟩) (zeros n) := by
  refine .inr ⟨g, 0, rfl, hn, fun j x hj => ?_⟩
  have hjn : j < n := by
    rcases Nat.lt_or_ge j n with h | h
    · exact h
    · rw [zeros, List.getElem?_eq_none (by simpa using h)] at hj; cases hj
  have hx : x = 0 := by
    rw [zeros, List.getElem?_replicate, if_pos hjn] at hj; cases hj; rfl
  have := h.cellAt j (by omega)
  rw [Nat.zero_add, this, zer, List.getElem?_replicate, if_pos hjn, hx]
theorem zeros_len (n : Nat) : (zeros n).length = n := by simp [zeros]
theorem made_zer (n : Nat) : (madeCells (Value.int IntKind.i64 0).cells (n * 1)).toList = zer n := by
  rw [show (Value.int IntKind.i64 0).cells = #[Value.int IntKind.i64 0] from rfl, toList_madeCells_one]; simp [zer]
set_option maxHeartbeats 2000000 in
theorem Put_bad (a : Option Addr) (cap : Nat) (l : List Pt) (w : World) (hl : l.length ≤ 1099511627776) (h : PartsAt w a l) (hb : wellL (l.map Pt.n) = false) :
    Calls Try.prog 12 #[.slice a l.length cap] w fun e w' => e = .returned (.tuple #[.slice none 0 0, .int .i64 8]) ∧ Below w.heap.size w w' := by
  obtain ⟨i0, hi, hz0, hz1, hz2⟩ := info_parts Try.info3
  go_enter Try.func12, Try.ntmps12
  go_wp2_with (refine wpList_make_full _ rfl _ _ 28 rfl w.heap.size 3 i0 (.int .i64 0) 1 Try.underlying28 hi hz0 hz1 .i64 .i64 l.length l.length l.length rfl rfl rfl rfl (by rw [hz2]; omega) (by unfold maxLen; omega) (Nat.le_refl _) ?_; intro w1 hown hgrow)
  have hb1 : Below w.heap.size w w1 := (Below.refl _ _).grown hgrow (Nat.le_refl _) (fun k h => by cases h)
  have hW := With_bad a (some ⟨w.heap.size, 0, none⟩) cap l.length l (zeros l.length) w1 hl (h.later hb1) hb
  rw [zeros_len] at hW
  clear hown hgrow h
  refine hW.mono ?_
  rintro e w2 ⟨rfl, hb2⟩
  have hb3 := bthen hb1 hb2
  clear hW hb1 hb2
  go_wp2_with fail
  go_ret2
  exact ⟨rfl, hb3⟩
set_option maxHeartbeats 2000000 in
theorem Put_ok (a : Option Addr) (cap : Nat) (q : Pt) (k : Fo) (m : Int) (l : List Pt) (w : World) (hl : l.length ≤ 1099511627776) (hw : ∀ q ∈ l, q.w.length ≤ 1125899906842624) (h : PartsAt w a l)
    (hm : w.cell? ⟨0, 0, none⟩ = some (.int .i64 m)) (hb : wellL (l.map Pt.n) = true) (hq : l = q :: k.flat) (hk : (k.count : Int) = q.n) (hg : k.good) :
    Calls Try.prog 12 #[.slice a l.length cap] w (PutOk q k w) := by
  have HQ := Lib.hid (And.intro hq (And.intro hk hg))
  clear hq hk hg
  obtain ⟨i0, hi, hz0, hz1, hz2⟩ := info_parts Try.info3
  go_enter Try.func12, Try.ntmps12
  go_wp2_with (refine wpList_make_full _ rfl _ _ 28 rfl w.heap.size 3 i0 (.int .i64 0) 1 Try.underlying28 hi hz0 hz1 .i64 .i64 l.length l.length l.length rfl rfl rfl rfl (by rw [hz2]; omega) (by unfold maxLen; omega) (Nat.le_refl _) ?_; intro w1 hown hgrow)
  have hb1 : Below w.heap.size w w1 := (Below.refl _ _).grown hgrow (Nat.le_refl _) (fun k h => by cases h)
  have hfa : IntsAt w1 (some ⟨w.heap.size, 0, none⟩) (zeros l.length) := by
    rw [made_zer] at hown
    exact IntsAt_made hown (hown.lt _ rfl).2
  have hm1 := keepCell hb1 hm
  have hW := With_ok a (some ⟨w.heap.size, 0, none⟩) cap l.length q k m l (zeros l.length) w1 hl hw (h.later hb1) hfa hm1 hb (zeros_len _) HQ.out.1 HQ.out.2.1 HQ.out.2.2
  rw [zeros_len] at hW
  clear hown hgrow h hfa
  refine hW.mono ?_
  rintro e w2 ⟨hb2, vo, vn, rfl, ho, _⟩
  have hb3 := bthen hb1 hb2
  have ho2 := ho.mono (base' := w.heap.size) (by have := hb1.size; omega)
  clear hW hb1 hb2 ho hm1
  go_wp2_with fail
  go_ret2
  exact ⟨hb3, vo, rfl, ho2⟩
end Go.Proofs.Ytgmkokophcmbnaa
