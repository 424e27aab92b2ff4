import Derived.Test.YtgmkokophcmbnaaX9
namespace Go.Proofs.Ytgmkokophcmbnaa
open Go.RowKit

set_option maxHeartbeats 2000000 in
theorem WithR_bad (a fa : Option Addr) (cap fcap : Nat) (l : List Pt) (fr : List Int) (w : World) (hl : l.length ≤ 300) (h : PartsAt w a l) (hb : wellL (l.map Pt.n) = false) :
    Calls Try.prog 11 #[.slice a l.length cap, .slice fa fr.length fcap] w fun e w' => e = .returned (.tuple #[.slice none 0 0, .slice none 0 0, .int .i64 8]) ∧ Below w.heap.size w w' := by
  have HE := Lib.hid (WellR_gen a cap l w hl h)
  rw [hb] at HE
  go_enter Try.func11, Try.ntmps11
  go_wp2_with fail
  refine HE.out.mono ?_
  rintro e w1 ⟨rfl, hb⟩
  go_wp2_with fail
  go_ret3
  exact ⟨rfl, hb⟩
set_option maxHeartbeats 2000000 in
theorem WithR_len (a fa : Option Addr) (cap fcap : Nat) (l : List Pt) (fr : List Int) (w : World) (hl : l.length ≤ 300) (h : PartsAt w a l) (hb : wellL (l.map Pt.n) = true) (hne : fr.length ≠ l.length) :
    Calls Try.prog 11 #[.slice a l.length cap, .slice fa fr.length fcap] w fun e w' => e = .returned (.tuple #[.slice none 0 0, .slice none 0 0, .int .i64 1]) ∧ Below w.heap.size w w' := by
  have HE := Lib.hid (WellR_gen a cap l w hl h)
  rw [hb] at HE
  have hd : ((fr.length : Int) == (l.length : Int)) = false := by rw [beq_eq_false_iff_ne]; omega
  clear hne
  go_enter Try.func11, Try.ntmps11
  go_wp2_with fail
  refine HE.out.mono ?_
  rintro e w1 ⟨rfl, hb⟩
  go_wp2_with fail
  go_ret3
  exact ⟨rfl, hb⟩
end Go.Proofs.Ytgmkokophcmbnaa
