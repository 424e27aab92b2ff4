import Derived.Test.YtgmkokophcmbnaaXB
import Derived.Test.YtgmkokophcmbnaaWA
namespace Go.Proofs.Ytgmkokophcmbnaa
open Go.RowKit

set_option maxHeartbeats 2000000 in
theorem PutR_bad (a : Option Addr) (cap : Nat) (l : List Pt) (w : World) (hl : l.length ≤ 300) (h : PartsAt w a l) (hb : wellL (l.map Pt.n) = false) :
    Calls Try.prog 13 #[.slice a l.length cap] w fun e w' => e = .returned (.tuple #[.slice none 0 0, .int .i64 8]) ∧ Below w.heap.size w w' := by
  obtain ⟨i0, hi, hz0, hz1, hz2⟩ := info_parts Try.info3
  go_enter Try.func13, Try.ntmps13
  go_wp2_with (refine wpList_make_full _ rfl _ _ 28 rfl w.heap.size 3 i0 (.int .i64 0) 1 Try.underlying28 hi hz0 hz1 .i64 .i64 l.length l.length l.length rfl rfl rfl rfl (by rw [hz2]; omega) (by unfold maxLen; omega) (Nat.le_refl _) ?_; intro w1 hown hgrow)
  have hb1 : Below w.heap.size w w1 := (Below.refl _ _).grown hgrow (Nat.le_refl _) (fun k h => by cases h)
  have hW := WithR_bad a (some ⟨w.heap.size, 0, none⟩) cap l.length l (zeros l.length) w1 hl (h.later hb1) hb
  rw [zeros_len] at hW
  clear hown hgrow h
  refine hW.mono ?_
  rintro e w2 ⟨rfl, hb2⟩
  have hb3 := bthen hb1 hb2
  clear hW hb1 hb2
  go_wp2_with fail
  go_ret2
  exact ⟨rfl, hb3⟩
set_option maxHeartbeats 2000000 in
theorem PutR_ok (a : Option Addr) (cap : Nat) (q : Pt) (k : Fo) (l : List Pt) (w : World) (hl : l.length ≤ 300) (h : PartsAt w a l)
    (hb : wellL (l.map Pt.n) = true) (hq : l = q :: k.flat) (hk : (k.count : Int) = q.n) (hg : k.good) :
    Calls Try.prog 13 #[.slice a l.length cap] w (PutOk q k w) := by
  have HQ := Lib.hid (And.intro hq (And.intro hk hg))
  clear hq hk hg
  obtain ⟨i0, hi, hz0, hz1, hz2⟩ := info_parts Try.info3
  go_enter Try.func13, Try.ntmps13
  go_wp2_with (refine wpList_make_full _ rfl _ _ 28 rfl w.heap.size 3 i0 (.int .i64 0) 1 Try.underlying28 hi hz0 hz1 .i64 .i64 l.length l.length l.length rfl rfl rfl rfl (by rw [hz2]; omega) (by unfold maxLen; omega) (Nat.le_refl _) ?_; intro w1 hown hgrow)
  have hb1 : Below w.heap.size w w1 := (Below.refl _ _).grown hgrow (Nat.le_refl _) (fun k h => by cases h)
  have hfa : IntsAt w1 (some ⟨w.heap.size, 0, none⟩) (zeros l.length) := by
    rw [made_zer] at hown
    exact IntsAt_made hown (hown.lt _ rfl).2
  have hW := WithR_ok a (some ⟨w.heap.size, 0, none⟩) cap l.length q k l (zeros l.length) w1 hl (h.later hb1) hfa hb (zeros_len _) HQ.out.1 HQ.out.2.1 HQ.out.2.2
  rw [zeros_len] at hW
  clear hown hgrow h hfa
  refine hW.mono ?_
  rintro e w2 ⟨hb2, vo, vn, rfl, ho, _⟩
  have hb3 := bthen hb1 hb2
  have ho2 := ho.mono (base' := w.heap.size) (by have := hb1.size; omega)
  clear hW hb1 hb2 ho
  go_wp2_with fail
  go_ret2
  exact ⟨hb3, vo, rfl, ho2⟩
end Go.Proofs.Ytgmkokophcmbnaa
