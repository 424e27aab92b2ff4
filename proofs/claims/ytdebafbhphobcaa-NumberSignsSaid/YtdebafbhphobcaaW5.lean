import Derived.Test.YtdebafbhphobcaaW4
namespace Go.Proofs.Ytdebafbhphobcaa
open Go.RowKit

@[simp] theorem take_drop_len (l : List UInt8) (k : Nat) : List.take (l.length - k) (List.drop k l) = l.drop k := List.take_of_length_le (by simp)
@[simp] theorem take_tail_len (l : List UInt8) : List.take (l.length - 1) l.tail = l.tail := List.take_of_length_le (by simp)
abbrev bat (l : List UInt8) (n : Nat) : Int := ((l[n]?.getD 0).toNat : Int)
theorem whole_l (l : List UInt8) (base : Int) (w : World) (hs : l.length ≤ 1125899906842624) (hbase : base ≤ 16) :
    Calls Try.prog 25 #[.string ⟨l.toArray⟩, .int .i64 base] w fun e w' => e = .returned (.int .u8 (wholeL base l)) ∧ Below w.heap.size w w' := by
  have := whole_any ⟨l.toArray⟩ base w (by rw [size_mk]; exact hs) hbase
  simpa using this
theorem power_le (ls l : List UInt8) : powerL ls l ≤ l.length := by
  unfold powerL
  split
  · simp
  · rename_i c r
    have := row_le 10 ((c :: r).drop (signL r))
    simp only [List.length_drop] at this
    split
    · simp
    · simp only []; split <;> omega
theorem power_l (l ls : List UInt8) (w : World) (hs : l.length ≤ 1125899906842624) :
    Calls Try.prog 37 #[.string ⟨l.toArray⟩, .string ⟨ls.toArray⟩] w fun e w' => e = .returned (.int .i64 (powerL ls l)) ∧ powerL ls l ≤ l.length ∧ Below w.heap.size w w' :=
  (power_any l ls w hs).mono fun e w' ⟨h, h2⟩ => ⟨h, power_le _ _, h2⟩

def endL (ls l : List UInt8) (n k : Nat) : Int :=
  if 0 < n + k ∧ 0 < k + powerL ls (l.drop (n + k)) ∧ n + k + powerL ls (l.drop (n + k)) = l.length then 4 else 0
def tenL (l : List UInt8) : Int :=
  if rowL 10 l = l.length ∧ 0 < rowL 10 l then (if bat l 0 ≠ 48 ∨ rowL 10 l = 1 then 3 else wholeL 8 l.tail)
  else if rowL 10 l < l.length ∧ bat l (rowL 10 l) = 46 then
    (if rowL 10 l + rowL 10 (l.drop (rowL 10 l + 1)) = 0 then 0 else endL [101, 69] l (rowL 10 l) (rowL 10 (l.drop (rowL 10 l + 1)) + 1))
  else endL [101, 69] l (rowL 10 l) 0

set_option maxHeartbeats 400000 in
theorem ten_any (l : List UInt8) (w : World) (hs : l.length ≤ 1125899906842624) :
    Calls Try.prog 27 #[.string ⟨l.toArray⟩] w fun e w' => e = .returned (.int .u8 (tenL l)) ∧ Below w.heap.size w w' := by
  have hb := Below.refl w.heap.size w
  by_cases hl : l = []
  · subst hl
    go_enter Try.func27, Try.ntmps27
    go_wp2_with (first
      | (go_at_call 37; refine (power_l [] _ _ (by simp)).mono ?_; rintro e w1 ⟨rfl, hle, hn⟩; replace hb := bthen hb hn)
      | (go_at_call 17; refine (row_l [] _ _ (by simp) (by omega)).mono ?_; rintro e w1 ⟨rfl, hle, hn⟩; replace hb := bthen hb hn))
    all_goals go_ret
    all_goals exact ⟨rfl, hb⟩
  have h0 : 0 < l.length := List.length_pos_iff.2 hl
  go_enter Try.func27, Try.ntmps27
  go_wp2_with (first
    | (go_at_call 25; refine (whole_l _ _ _ (by (try simp); omega) (by omega)).mono ?_; rintro e w1 ⟨rfl, hn⟩; replace hb := bthen hb hn)
    | (go_at_call 37; refine (power_l _ _ _ (by (try simp); omega)).mono ?_; rintro e w1 ⟨rfl, hle, hn⟩; (try simp only [List.length_cons, List.length_drop] at hle); replace hb := bthen hb hn)
    | (go_at_call 17; refine (row_l _ _ _ (by (try simp); omega) (by omega)).mono ?_; rintro e w1 ⟨rfl, hle, hn⟩; (try simp only [List.length_cons, List.length_drop] at hle); replace hb := bthen hb hn))
  all_goals go_ret
  all_goals refine ⟨ret_int ?_, hb⟩
  all_goals simp only [tenL, endL, bat, Nat.add_zero, Nat.zero_add, beq_iff_eq, beq_eq_false_iff_ne] at *
  all_goals clear hb hn
  all_goals (repeat' split)
  all_goals first | omega | (simp_all; done) | (simp_all; omega)
end Go.Proofs.Ytdebafbhphobcaa
