import Derived.Test.YtdebafbhphobcaaX2
namespace Go.Proofs.Ytdebafbhphobcaa
open Go.RowKit

@[simp] theorem take_drop_len2 (l : List UInt8) (a b : Nat) : List.take (l.length - a - b) (List.drop (a + b) l) = l.drop (a + b) := List.take_of_length_le (by simp; omega)
def anyF (f : Nat → Bool) (n i : Nat) : Bool := (List.range' i (n + 1 - i)).any f
theorem anyF_step (f : Nat → Bool) (n i : Nat) (h : i ≤ n) : anyF f n i = (f i || anyF f n (i + 1)) := by
  unfold anyF
  obtain ⟨m, hm⟩ : ∃ m, n + 1 - i = m + 1 := ⟨n - i, by omega⟩
  rw [hm, List.range'_succ, List.any_cons, show n + 1 - (i + 1) = m from by omega]
theorem anyF_end (f : Nat → Bool) (n i : Nat) (h : n < i) : anyF f n i = false := by
  unfold anyF; rw [show n + 1 - i = 0 from by omega]; rfl
def hexF (t : List UInt8) (i : Nat) : Bool := powerR 112 80 (t.drop i) && (pointR 16 true (t.take i) || underR 16 (t.take i))
def decF (t : List UInt8) (i : Nat) : Bool := powerR 101 69 (t.drop i) && (pointR 10 false (t.take i) || rowR 10 (t.take i))
def floatR (l : List UInt8) : Bool :=
  if headedR 120 88 l then anyF (hexF (l.drop 2)) (l.length - 2) 0 else pointR 10 false l || anyF (decF l) l.length 0

set_option maxHeartbeats 2000000 in
theorem rfloat (l : List UInt8) (w : World) (hs : l.length ≤ 1125899906842624) :
    Calls Try.prog 19 #[.string ⟨l.toArray⟩] w fun e w' => e = .returned (.bool (floatR l)) ∧ w = w' := by
  by_cases hh : headedR 120 88 l = true
  · have h2 := headedR_pos _ _ _ hh
    go_enter Try.func19, Try.ntmps19
    go_wp2_with (first
      | (go_at_call 31; refine (rheaded _ _ _ _ (by (try simp); omega)).mono ?_; rintro e w1 ⟨rfl, rfl⟩))
    go_loop [4] (fun u => ∃ i : Nat, i ≤ l.length - 2 + 1 ∧ u = .int .i64 i ∧ anyF (hexF (l.drop 2)) (l.length - 2) i = anyF (hexF (l.drop 2)) (l.length - 2) 0) (fun u => l.length - 2 + 1 - (intOf u).toNat)
    case atStart => exact ⟨0, by omega, rfl, rfl⟩
    case round =>
      obtain ⟨i, hi, rfl, hv⟩ := hrel
      have Hv := Lib.hid hv
      clear hv
      by_cases hlt : i ≤ l.length - 2
      · go_wp2_with (first
          | (go_at_call 32; refine (rpower _ _ _ _ (by (try simp); omega)).mono ?_; rintro e w1 ⟨rfl, rfl⟩)
          | (go_at_call 33; refine (rpointed _ _ _ _ (by (try simp); omega) (by omega) (by omega)).mono ?_; rintro e w1 ⟨rfl, rfl⟩)
          | (go_at_call 30; refine (runder _ _ _ (by (try simp); omega) (by omega) (by omega)).mono ?_; rintro e w1 ⟨rfl, rfl⟩))
        all_goals first
          | (go_round
             case rel =>
               have hok : hexF (l.drop 2) i = false := by simp_all [hexF]
               exact ⟨i + 1, by omega, by go_num, by rw [← Hv.out, anyF_step _ _ i hlt, hok]; rfl⟩
             case measure => simp [intOf]; omega)
          | (go_ret
             have hok : hexF (l.drop 2) i = true := by simp_all [hexF]
             exact ⟨ret_val (by rw [floatR, if_pos hh, ← Hv.out, anyF_step _ _ i hlt, hok]; rfl), by first | rfl | trivial⟩)
      · go_wp2_with fail
        go_ret
        exact ⟨ret_val (by rw [floatR, if_pos hh, ← Hv.out, anyF_end _ _ i (by omega)]; rfl), by first | rfl | trivial⟩
  · have hh' : headedR 120 88 l = false := by simpa using hh
    clear hh
    by_cases hp : pointR 10 false l = true
    · go_enter Try.func19, Try.ntmps19
      go_wp2_with (first
        | (go_at_call 33; refine (rpointed _ _ _ _ (by (try simp); omega) (by omega) (by omega)).mono ?_; rintro e w1 ⟨rfl, rfl⟩)
        | (go_at_call 31; refine (rheaded _ _ _ _ (by (try simp); omega)).mono ?_; rintro e w1 ⟨rfl, rfl⟩))
      go_ret
      exact ⟨ret_val (by simp_all [floatR]), by first | rfl | trivial⟩
    have Hp : pointR 10 false l = false := by simpa using hp
    clear hp
    go_enter Try.func19, Try.ntmps19
    go_wp2_with (first
      | (go_at_call 33; refine (rpointed _ _ _ _ (by (try simp); omega) (by omega) (by omega)).mono ?_; rintro e w1 ⟨rfl, rfl⟩)
      | (go_at_call 31; refine (rheaded _ _ _ _ (by (try simp); omega)).mono ?_; rintro e w1 ⟨rfl, rfl⟩))
    have HP := Lib.hid Hp
    clear Hp
    go_loop [5] (fun u => ∃ i : Nat, i ≤ l.length + 1 ∧ u = .int .i64 i ∧ anyF (decF l) l.length i = anyF (decF l) l.length 0) (fun u => l.length + 1 - (intOf u).toNat)
    case atStart => exact ⟨0, by omega, rfl, rfl⟩
    case round =>
      obtain ⟨i, hi, rfl, hv⟩ := hrel
      have Hv := Lib.hid hv
      clear hv
      by_cases hlt : i ≤ l.length
      · go_wp2_with (first
          | (go_at_call 32; refine (rpower _ _ _ _ (by (try simp); omega)).mono ?_; rintro e w1 ⟨rfl, rfl⟩)
          | (go_at_call 33; refine (rpointed _ _ _ _ (by (try simp); omega) (by omega) (by omega)).mono ?_; rintro e w1 ⟨rfl, rfl⟩)
          | (go_at_call 20; refine (rrow _ _ _ (by (try simp); omega) (by omega) (by omega)).mono ?_; rintro e w1 ⟨rfl, rfl⟩))
        all_goals first
          | (go_round
             case rel =>
               have hok : decF l i = false := by simp_all [decF]
               exact ⟨i + 1, by omega, by go_num, by rw [← Hv.out, anyF_step _ _ i hlt, hok]; rfl⟩
             case measure => simp [intOf]; omega)
          | (go_ret
             have hok : decF l i = true := by simp_all [decF]
             exact ⟨ret_val (by rw [floatR, if_neg (by simp [hh']), HP.out, ← Hv.out, anyF_step _ _ i hlt, hok]; rfl), by first | rfl | trivial⟩)
      · go_wp2_with fail
        go_ret
        exact ⟨ret_val (by rw [floatR, if_neg (by simp [hh']), HP.out, ← Hv.out, anyF_end _ _ i (by omega)]; rfl), by first | rfl | trivial⟩

def kindR (l : List UInt8) : Int :=
  if intR l = true then 3 else if floatR l = true then 4 else
  if 1 < l.length ∧ bat l (l.length - 1) = 105 ∧ (intR (l.take (l.length - 1)) = true ∨ floatR (l.take (l.length - 1)) = true ∨ rowR 10 (l.take (l.length - 1)) = true) then 5 else 0
set_option maxHeartbeats 2000000 in
theorem rkind (l : List UInt8) (w : World) (hs : l.length ≤ 1125899906842624) :
    Calls Try.prog 11 #[.string ⟨l.toArray⟩] w fun e w' => e = .returned (.int .u8 (kindR l)) ∧ w = w' := by
  go_enter Try.func11, Try.ntmps11
  go_wp2_with (first
    | (go_at_call 18; refine (rint _ _ (by (try simp); omega)).mono ?_; rintro e w1 ⟨rfl, rfl⟩)
    | (go_at_call 19; refine (rfloat _ _ (by (try simp); omega)).mono ?_; rintro e w1 ⟨rfl, rfl⟩)
    | (go_at_call 20; refine (rrow _ _ _ (by (try simp); omega) (by omega) (by omega)).mono ?_; rintro e w1 ⟨rfl, rfl⟩))
  all_goals go_ret
  all_goals refine ⟨ret_int ?_, by first | rfl | trivial⟩
  all_goals simp only [kindR, bat]
  all_goals first | (simp_all; done) | (simp_all; omega)
end Go.Proofs.Ytdebafbhphobcaa
