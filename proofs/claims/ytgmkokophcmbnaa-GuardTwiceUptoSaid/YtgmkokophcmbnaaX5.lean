import Derived.Test.YtgmkokophcmbnaaX4
namespace Go.Proofs.Ytgmkokophcmbnaa
open Go.RowKit

theorem endR_well (l : List Pt) : (endR l 0 == (l.length : Int)) = wellL (l.map Pt.n) := by
  rw [well_ref]
  unfold endR
  rw [List.drop_zero]
  cases endN l.length (l.map Pt.n) 1 with
  | none => rw [Bool.eq_iff_iff]; simp
  | some c => rw [Bool.eq_iff_iff]; simp; omega
set_option maxHeartbeats 2000000 in
theorem WellR_gen (a : Option Addr) (cap : Nat) (l : List Pt) (w : World) (hl : l.length ≤ 300) (h : PartsAt w a l) :
    Calls Try.prog 20 #[.slice a l.length cap] w fun e w' => e = .returned (.bool (wellL (l.map Pt.n))) ∧ Below w.heap.size w w' := by
  by_cases h0 : l = []
  · subst h0
    go_enter Try.func20, Try.ntmps20
    go_wp2_with fail
    go_ret
    exact ⟨rfl, Below.refl _ _⟩
  · obtain ⟨b, off, rfl, hb, hc⟩ := h.resolve_left h0
    have HE := Lib.hid (End_any b off cap l 0 w hl (by omega) (fun j p hj => (hc j p hj).2.1))
    have HW := Lib.hid (endR_well l)
    have hpos : (0 : Int) < (l.length : Int) := by
      have : l.length ≠ 0 := fun e => h0 (List.eq_nil_of_length_eq_zero e)
      omega
    generalize endR l 0 = v at *
    generalize wellL (l.map Pt.n) = x at *
    clear h h0 hc
    go_enter Try.func20, Try.ntmps20
    go_wp2_with fail
    refine HE.out.mono ?_
    rintro e w1 ⟨rfl, hb1⟩
    go_wp2_with fail
    go_ret
    exact ⟨ret_val (by rw [← HW.out]; rfl), hb1⟩
end Go.Proofs.Ytgmkokophcmbnaa
