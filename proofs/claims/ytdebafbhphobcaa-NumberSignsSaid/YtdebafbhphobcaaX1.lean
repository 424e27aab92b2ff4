import Derived.Test.YtdebafbhphobcaaW9
import Derived.Test.YtdebafbhphobcaaW8
namespace Go.Proofs.Ytdebafbhphobcaa
open Go.RowKit

def underR (b : Int) (l : List UInt8) : Bool := rowR b l || (decide (1 < l.length) && decide (bat l 0 = 95) && rowR b l.tail)
set_option maxHeartbeats 1000000 in
theorem runder (l : List UInt8) (base : Int) (w : World) (hs : l.length ≤ 1125899906842624) (hb0 : 0 ≤ base) (hb : base ≤ 16) :
    Calls Try.prog 30 #[.string ⟨l.toArray⟩, .int .i64 base] w fun e w' => e = .returned (.bool (underR base l)) ∧ w = w' := by
  go_enter Try.func30, Try.ntmps30
  go_wp2_with (first | (go_at_call 20; refine (rrow _ _ _ (by (try simp); omega) hb0 hb).mono ?_; rintro e w1 ⟨rfl, rfl⟩))
  all_goals go_ret
  all_goals refine ⟨ret_val (congrArg Value.bool ?_), by first | rfl | trivial⟩
  all_goals simp only [underR, bat]
  all_goals first | (simp_all; done) | (simp_all; omega)

def headedR (a b : Int) (l : List UInt8) : Bool := decide (2 ≤ l.length) && decide (bat l 0 = 48) && (decide (bat l 1 = a) || decide (bat l 1 = b))
set_option maxHeartbeats 1000000 in
theorem rheaded (l : List UInt8) (a b : Int) (w : World) (hs : l.length ≤ 1125899906842624) :
    Calls Try.prog 31 #[.string ⟨l.toArray⟩, .int .u8 a, .int .u8 b] w fun e w' => e = .returned (.bool (headedR a b l)) ∧ w = w' := by
  go_enter Try.func31, Try.ntmps31
  go_wp2_with fail
  all_goals go_ret
  all_goals refine ⟨ret_val (congrArg Value.bool ?_), by first | rfl | trivial⟩
  all_goals simp only [headedR, bat]
  all_goals first | (simp_all; done) | (simp_all; omega) | (rw [Bool.eq_iff_iff]; simp_all; done) | (rw [Bool.eq_iff_iff]; simp_all; omega)

def powerR (a b : Int) (l : List UInt8) : Bool :=
  decide (2 ≤ l.length) && (decide (bat l 0 = a) || decide (bat l 0 = b)) && (if bat l 1 = 43 ∨ bat l 1 = 45 then rowR 10 (l.drop 2) else rowR 10 l.tail)
set_option maxHeartbeats 1000000 in
theorem rpower (l : List UInt8) (a b : Int) (w : World) (hs : l.length ≤ 1125899906842624) :
    Calls Try.prog 32 #[.string ⟨l.toArray⟩, .int .u8 a, .int .u8 b] w fun e w' => e = .returned (.bool (powerR a b l)) ∧ w = w' := by
  go_enter Try.func32, Try.ntmps32
  go_wp2_with (first | (go_at_call 20; refine (rrow _ _ _ (by (try simp); omega) (by omega) (by omega)).mono ?_; rintro e w1 ⟨rfl, rfl⟩))
  all_goals go_ret
  all_goals refine ⟨ret_val (congrArg Value.bool ?_), by first | rfl | trivial⟩
  all_goals simp only [powerR, bat]
  all_goals first | (simp_all; done) | (simp_all; omega)

def intR (l : List UInt8) : Bool :=
  decide (l = [48]) || (rowR 10 l && !decide (bat l 0 = 48)) || (decide (1 < l.length) && decide (bat l 0 = 48) && underR 8 l.tail)
  || (headedR 98 66 l && underR 2 (l.drop 2)) || (!headedR 98 66 l && ((headedR 111 79 l && underR 8 (l.drop 2)) || (!headedR 111 79 l && headedR 120 88 l && underR 16 (l.drop 2))))
theorem rowR_pos (b : Int) (l : List UInt8) (h : rowR b l = true) : 0 < l.length := by
  cases l with
  | nil => simp [rowR] at h
  | cons _ _ => simp
theorem headedR_pos (a b : Int) (l : List UInt8) (h : headedR a b l = true) : 2 ≤ l.length := by
  simp [headedR] at h; omega
set_option maxHeartbeats 2000000 in
theorem rint (l : List UInt8) (w : World) (hs : l.length ≤ 1125899906842624) :
    Calls Try.prog 18 #[.string ⟨l.toArray⟩] w fun e w' => e = .returned (.bool (intR l)) ∧ w = w' := by
  by_cases h2 : 2 ≤ l.length
  · go_enter Try.func18, Try.ntmps18
    go_wp2_with (first
      | (go_at_call 20; refine (rrow _ _ _ (by (try simp); omega) (by omega) (by omega)).mono ?_; rintro e w1 ⟨rfl, rfl⟩)
      | (go_at_call 30; refine (runder _ _ _ (by (try simp); omega) (by omega) (by omega)).mono ?_; rintro e w1 ⟨rfl, rfl⟩)
      | (go_at_call 31; refine (rheaded _ _ _ _ (by (try simp); omega)).mono ?_; rintro e w1 ⟨rfl, rfl⟩))
    all_goals go_ret
    all_goals refine ⟨ret_val (congrArg Value.bool ?_), by first | rfl | trivial⟩
    all_goals simp only [intR, bat]
    all_goals first | (simp_all; done) | (simp_all; omega) | (rw [Bool.eq_iff_iff]; simp_all; done) | (rw [Bool.eq_iff_iff]; simp_all; omega)
  · have hh : ∀ a b, headedR a b l = false := fun a b => by simp [headedR]; omega
    have e1 := hh 98 66
    have e2 := hh 111 79
    have e3 := hh 120 88
    clear hh
    by_cases hl : l = []
    · subst hl
      have e0 : rowR 10 [] = false := rfl
      go_enter Try.func18, Try.ntmps18
      go_wp2_with (first
        | (go_at_call 20; refine (rrow [] _ _ (by (try simp)) (by omega) (by omega)).mono ?_; rintro e w1 ⟨rfl, rfl⟩)
        | (go_at_call 31; refine (rheaded [] _ _ _ (by (try simp))).mono ?_; rintro e w1 ⟨rfl, rfl⟩))
      all_goals go_ret
      all_goals exact ⟨rfl, by first | rfl | trivial⟩
    · have h1 : 0 < l.length := List.length_pos_iff.2 hl
      go_enter Try.func18, Try.ntmps18
      go_wp2_with (first
        | (go_at_call 20; refine (rrow _ _ _ (by (try simp); omega) (by omega) (by omega)).mono ?_; rintro e w1 ⟨rfl, rfl⟩)
        | (go_at_call 31; refine (rheaded _ _ _ _ (by (try simp); omega)).mono ?_; rintro e w1 ⟨rfl, rfl⟩))
      all_goals go_ret
      all_goals refine ⟨ret_val (congrArg Value.bool ?_), by first | rfl | trivial⟩
      all_goals simp only [intR, bat]
      all_goals first | (simp_all; done) | (simp_all; omega) | (rw [Bool.eq_iff_iff]; simp_all; done) | (rw [Bool.eq_iff_iff]; simp_all; omega)
end Go.Proofs.Ytdebafbhphobcaa
