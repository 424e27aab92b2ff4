import Derived.Test.YtdebafbhphobcaaQ1
namespace Go.Proofs.Ytdebafbhphobcaa
open Go.RowKit

theorem fx1 : scanA [97, 43, 49, 46, 53, 101, 43, 51, 59] 2 = (4, 8, 0) := by decide +kernel
theorem fx2 : scanA [48, 120, 49, 101, 43, 51] 0 = (3, 4, 0) := by decide +kernel
theorem fx3 : kindR [48, 56, 105] = 5 := by rw [← kind_eq]; decide +kernel
theorem fx4 : kindR [48, 56] = 0 := by rw [← kind_eq]; decide +kernel
theorem kind_r (l : List UInt8) (w : World) (hs : l.length ≤ 1125899906842624) :
    Calls Try.prog 10 #[.string ⟨l.toArray⟩] w fun e w' => e = .returned (.int .u8 (kindR l)) ∧ Below w.heap.size w w' := by
  rw [← kind_eq]; exact kind_any l w hs
theorem scan_f1 (w : World) : Calls Try.prog 12 #[.string ⟨#[97, 43, 49, 46, 53, 101, 43, 51, 59]⟩, .int .i64 2] w fun e w' => e = .returned (.tuple #[.int .u8 4, .int .i64 8, .int .i64 0]) ∧ Below w.heap.size w w' := by
  have := scan_all [97, 43, 49, 46, 53, 101, 43, 51, 59] 2 w (by simp)
  rw [fx1] at this; exact this
theorem scan_f2 (w : World) : Calls Try.prog 12 #[.string ⟨#[48, 120, 49, 101, 43, 51]⟩, .int .i64 0] w fun e w' => e = .returned (.tuple #[.int .u8 3, .int .i64 4, .int .i64 0]) ∧ Below w.heap.size w w' := by
  have := scan_all [48, 120, 49, 101, 43, 51] 0 w (by simp)
  rw [fx2] at this; exact this
theorem kind_f1 (w : World) : Calls Try.prog 10 #[.string ⟨#[48, 56, 105]⟩] w fun e w' => e = .returned (.int .u8 5) ∧ Below w.heap.size w w' := by
  have := kind_r [48, 56, 105] w (by simp)
  rw [fx3] at this; exact this
theorem kind_f2 (w : World) : Calls Try.prog 10 #[.string ⟨#[48, 56]⟩] w fun e w' => e = .returned (.int .u8 0) ∧ Below w.heap.size w w' := by
  have := kind_r [48, 56] w (by simp)
  rw [fx4] at this; exact this
set_option maxHeartbeats 1000000 in
theorem fixed_any (w : World) : Calls Try.prog 9 #[] w fun e w' => e = .returned (.bool true) ∧ Below w.heap.size w w' := by
  have hb := Below.refl w.heap.size w
  go_enter Try.func9, Try.ntmps9
  go_wp2_with fail
  refine (scan_f1 _).mono ?_; rintro e w1 ⟨rfl, hn⟩; replace hb := bthen hb hn
  go_wp2_with fail
  refine (scan_f2 _).mono ?_; rintro e w2 ⟨rfl, hn⟩; replace hb := bthen hb hn
  go_wp2_with fail
  refine (kind_f1 _).mono ?_; rintro e w3 ⟨rfl, hn⟩; replace hb := bthen hb hn
  go_wp2_with fail
  refine (kind_f2 _).mono ?_; rintro e w4 ⟨rfl, hn⟩; replace hb := bthen hb hn
  go_wp2_with fail
  go_ret
  exact ⟨rfl, hb⟩

set_option maxHeartbeats 1000000 in
theorem kinds_walk (l : List UInt8) (w : World) :
    Calls Try.prog 3 #[.string ⟨l.toArray⟩] w fun e w' => e = .returned (.bool true) ∧ Below w.heap.size w w' := by
  have hb := Below.refl w.heap.size w
  go_enter Try.func3, Try.ntmps3
  go_wp2_with (first
    | (go_at_call 9; refine (fixed_any _).mono ?_; rintro e w1 ⟨rfl, hn⟩; replace hb := bthen hb hn)
    | (go_at_call 10; refine (kind_r _ _ (by omega)).mono ?_; rintro e w1 ⟨rfl, hn⟩; replace hb := bthen hb hn)
    | (go_at_call 11; refine (rkind _ _ (by omega)).mono ?_; rintro e w1 ⟨rfl, rfl⟩))
  all_goals go_ret
  all_goals exact ⟨by simp, hb⟩

theorem scan_t (l : List UInt8) (a : Int) (w : World) (hs : l.length ≤ 1125899906842624) :
    Calls Try.prog 12 #[.string ⟨l.toArray⟩, .int .i64 a] w fun e w' => e = .returned (.tuple #[.int .u8 (scanA l a).1, .int .i64 (scanA l a).2.1, .int .i64 (scanA l a).2.2]) ∧ Below w.heap.size w w' := scan_all l a w hs
theorem rscan_t (l : List UInt8) (a : Int) (w : World) (hs : l.length ≤ 1125899906842624) :
    Calls Try.prog 13 #[.string ⟨l.toArray⟩, .int .i64 a] w fun e w' => e = .returned (.tuple #[.int .u8 (scanA l a).1, .int .i64 (scanA l a).2.1, .int .i64 (scanA l a).2.2]) ∧ w = w' := rscan l a w hs
set_option maxHeartbeats 1000000 in
theorem scans_walk (l : List UInt8) (a : Int) (w : World) :
    Calls Try.prog 4 #[.string ⟨l.toArray⟩, .int .i64 a] w fun e w' => e = .returned (.bool true) ∧ Below w.heap.size w w' := by
  have hb := Below.refl w.heap.size w
  go_enter Try.func4, Try.ntmps4
  go_wp2_with (first
    | (go_at_call 9; refine (fixed_any _).mono ?_; rintro e w1 ⟨rfl, hn⟩; replace hb := bthen hb hn)
    | (go_at_call 12; refine (scan_t _ _ _ (by omega)).mono ?_; rintro e w1 ⟨rfl, hn⟩; replace hb := bthen hb hn)
    | (go_at_call 13; refine (rscan_t _ _ _ (by omega)).mono ?_; rintro e w1 ⟨rfl, rfl⟩))
  all_goals go_ret
  all_goals exact ⟨by simp, hb⟩
end Go.Proofs.Ytdebafbhphobcaa
