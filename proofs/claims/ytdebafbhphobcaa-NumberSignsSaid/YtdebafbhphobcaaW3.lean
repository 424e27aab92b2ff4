import Derived.Test.YtdebafbhphobcaaW2
import Derived.Test.YtdebafbhphobcaaShelf
namespace Go.Proofs.Ytdebafbhphobcaa
open Go.RowKit

theorem ret_val {a b : Value} (h : a = b) : Ending.returned a = .returned b := by rw [h]
theorem trim_le (l p : List UInt8) : (Lib.trimPrefix l p).length ≤ l.length := by
  unfold Lib.trimPrefix; split <;> simp
theorem size_mk (l : List UInt8) : (ByteArray.mk l.toArray).size = l.length := by simp [ByteArray.size]
theorem fit_trim (s : ByteArray) (p : List UInt8) (N : Nat) (h : s.size ≤ N) : (ByteArray.mk (Lib.trimPrefix s.data.toList p).toArray).size ≤ N := by
  rw [size_mk]; have := trim_le s.data.toList p; rw [← Lib.size_eq] at this; omega
def wholeL (b : Int) (l : List UInt8) : Int :=
  if Lib.trimPrefix l [95] ≠ [] ∧ rowL b (Lib.trimPrefix l [95]) = (Lib.trimPrefix l [95]).length then 3 else 0

set_option maxHeartbeats 400000 in
theorem whole_any (s : ByteArray) (base : Int) (w : World) (hs : s.size ≤ 1125899906842624) (hbase : base ≤ 16) :
    Calls Try.prog 25 #[.string s, .int .i64 base] w fun e w' => e = .returned (.int .u8 (wholeL base s.data.toList)) ∧ Below w.heap.size w w' := by
  go_enter Try.func25, Try.ntmps25
  go_wp2_with (first | (go_at_call 36; refine (Try.strings_TrimPrefix _ _ _).mono ?_; rintro e w' ⟨rfl, hw⟩; obtain rfl := hw.symm) | (go_at_call 17; refine (row_any _ _ _ (fit_trim _ _ _ hs) hbase).mono ?_; rintro e w1 ⟨rfl, hb⟩))
  all_goals go_ret
  all_goals (refine ⟨ret_int ?_, by first | assumption | exact Below.refl _ _⟩; simp_all [wholeL] <;> omega)
end Go.Proofs.Ytdebafbhphobcaa
