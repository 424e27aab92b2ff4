import Derived.Test.YtdebafbhphobcaaX3
namespace Go.Proofs.Ytdebafbhphobcaa
open Go.RowKit

def beginsR (l : List UInt8) (k : Nat) : Bool :=
  decide (k < l.length) && (dg 10 (l[k]?.getD 0) || (decide (bat l k = 46) && decide (k + 1 < l.length) && dg 10 (l[k + 1]?.getD 0)))
def alR (c : Int) : Bool := decide ((48 ≤ c ∧ c ≤ 57) ∨ (97 ≤ c ∧ c ≤ 122) ∨ (65 ≤ c ∧ c ≤ 90) ∨ c = 95 ∨ c = 46)
def contR (l : List UInt8) (hex : Bool) (k to : Nat) : Bool :=
  alR (bat l to) || (decide (k < to) && decide (bat l to = 43 ∨ bat l to = 45) && ((!hex && decide (bat l (to - 1) = 101 ∨ bat l (to - 1) = 69)) || (hex && decide (bat l (to - 1) = 112 ∨ bat l (to - 1) = 80))))
def endRR (l : List UInt8) (hex : Bool) (k : Nat) : Nat := runF (contR l hex k) (l.length - k) k

set_option maxHeartbeats 2000000 in
set_option maxRecDepth 100000 in
theorem rrun_no (l : List UInt8) (at' : Int) (w : World) (hs : l.length ≤ 1125899906842624) (h : at' < 0 ∨ beginsR l at'.toNat = false) :
    Calls Try.prog 24 #[.string ⟨l.toArray⟩, .int .i64 at'] w fun e w' => e = .returned (.int .i64 at') ∧ w = w' := by
  by_cases h0 : 0 ≤ at'
  · obtain ⟨k, rfl⟩ := Int.eq_ofNat_of_zero_le h0
    have h : beginsR l k = false := by rcases h with h | h; (exfalso; omega); simpa using h
    have H := Lib.hid h
    clear h
    by_cases hk : k < l.length
    · go_enter Try.func24, Try.ntmps24
      go_wp2_with (first | (go_at_call 34; refine (rdigit _ _ _ (by omega) (by omega)).mono ?_; rintro e w1 ⟨rfl, rfl⟩))
      all_goals first
        | (go_ret; exact ⟨rfl, by first | rfl | trivial⟩)
        | (exfalso; have h := H.out; simp_all [beginsR, bat]; done)
        | (exfalso; have h := H.out; simp_all [beginsR, bat]; omega)
    · go_enter Try.func24, Try.ntmps24
      go_wp2_with fail
      all_goals go_ret
      all_goals exact ⟨rfl, by first | rfl | trivial⟩
  · go_enter Try.func24, Try.ntmps24
    go_wp2_with fail
    all_goals go_ret
    all_goals exact ⟨rfl, by first | rfl | trivial⟩
set_option maxHeartbeats 4000000 in
set_option maxRecDepth 100000 in
theorem rrun_df (l : List UInt8) (k : Nat) (w : World) (hs : l.length ≤ 1125899906842624) (hk : k < l.length) (hd : dg 10 l[k] = true) (hh : headedR 120 88 (l.drop k) = false) :
    Calls Try.prog 24 #[.string ⟨l.toArray⟩, .int .i64 k] w fun e w' => e = .returned (.int .i64 (endRR l false k)) ∧ w = w' := by
  go_enter Try.func24, Try.ntmps24
  go_wp2_with (first
    | (go_at_call 31; refine (rheaded _ _ _ _ (by (try simp); omega)).mono ?_; rintro e w1 ⟨rfl, rfl⟩)
    | (go_at_call 34; refine (rdigit _ _ _ (by omega) (by omega)).mono ?_; rintro e w1 ⟨rfl, rfl⟩))
  clear hd
  go_loop [6] (fun u => ∃ to : Nat, k ≤ to ∧ to ≤ l.length ∧ u = .int .i64 to ∧ runF (contR l false k) (l.length - to) to = endRR l false k) (fun u => l.length - (intOf u).toNat)
  case atStart => exact ⟨k, Nat.le_refl _, by omega, rfl, rfl⟩
  case round =>
    obtain ⟨to, hto, hle, rfl, htr⟩ := hrel
    have Htr := Lib.hid htr
    clear htr
    by_cases hlt : to < l.length
    · have gi : l[to]?.getD 0 = l[to] := by simp [hlt]
      have Gi := Lib.hid gi
      clear gi
      go_wp2_with fail
      all_goals first
        | (go_round
           case rel =>
             go_tidy; have gi := Gi.out
             have hct : contR l false k to = true := by first | (simp_all [contR, alR, bat]; done) | (simp_all [contR, alR, bat]; omega)
             exact ⟨to + 1, by omega, by omega, by go_num, by rw [← Htr.out, run_step _ _ _ hct hlt]⟩
           case measure => simp [intOf]; omega)
        | (go_ret
           go_tidy; have gi := Gi.out
           have hct : contR l false k to = false := by
             simp only [contR, alR, bat, Bool.or_eq_false_iff, Bool.and_eq_false_iff, decide_eq_false_iff_not]
             first | (simp_all; done) | (simp_all; omega)
           have hen : endRR l false k = to := by rw [← Htr.out, run_stop _ _ _ hct]
           exact ⟨ret_int (by rw [hen]), by first | rfl | trivial⟩)
    · go_wp2_with fail
      go_ret
      have hen : endRR l false k = to := by rw [← Htr.out, show l.length - to = 0 from by omega]; rfl
      exact ⟨ret_int (by rw [hen]; omega), by first | rfl | trivial⟩

set_option maxHeartbeats 4000000 in
set_option maxRecDepth 100000 in
theorem rrun_pf (l : List UInt8) (k : Nat) (w : World) (hs : l.length ≤ 1125899906842624) (hk : k < l.length) (hd : dg 10 l[k] = false) (h46 : (l[k].toNat : Int) = 46) (hk1 : k + 1 < l.length) (hd1 : dg 10 l[k + 1] = true) (hh : headedR 120 88 (l.drop k) = false) :
    Calls Try.prog 24 #[.string ⟨l.toArray⟩, .int .i64 k] w fun e w' => e = .returned (.int .i64 (endRR l false k)) ∧ w = w' := by
  have k2 : ((k : Int) + 1 == l.length) = false := by simp; omega
  have h46' : ((l[k].toNat : Int) != 46) = false := by simp [h46]
  have k3 : (k : Int) + 1 < l.length := by omega
  have k4 : 0 ≤ (k : Int) + 1 := by omega
  clear h46
  go_enter Try.func24, Try.ntmps24
  go_wp2_with (first
    | (go_at_call 31; refine (rheaded _ _ _ _ (by (try simp); omega)).mono ?_; rintro e w1 ⟨rfl, rfl⟩)
    | (go_at_call 34; refine (rdigit _ _ _ (by omega) (by omega)).mono ?_; rintro e w1 ⟨rfl, rfl⟩))
  clear hd
  go_loop [6] (fun u => ∃ to : Nat, k ≤ to ∧ to ≤ l.length ∧ u = .int .i64 to ∧ runF (contR l false k) (l.length - to) to = endRR l false k) (fun u => l.length - (intOf u).toNat)
  case atStart => exact ⟨k, Nat.le_refl _, by omega, rfl, rfl⟩
  case round =>
    obtain ⟨to, hto, hle, rfl, htr⟩ := hrel
    have Htr := Lib.hid htr
    clear htr
    by_cases hlt : to < l.length
    · have gi : l[to]?.getD 0 = l[to] := by simp [hlt]
      have Gi := Lib.hid gi
      clear gi
      go_wp2_with fail
      all_goals first
        | (go_round
           case rel =>
             go_tidy; have gi := Gi.out
             have hct : contR l false k to = true := by first | (simp_all [contR, alR, bat]; done) | (simp_all [contR, alR, bat]; omega)
             exact ⟨to + 1, by omega, by omega, by go_num, by rw [← Htr.out, run_step _ _ _ hct hlt]⟩
           case measure => simp [intOf]; omega)
        | (go_ret
           go_tidy; have gi := Gi.out
           have hct : contR l false k to = false := by
             simp only [contR, alR, bat, Bool.or_eq_false_iff, Bool.and_eq_false_iff, decide_eq_false_iff_not]
             first | (simp_all; done) | (simp_all; omega)
           have hen : endRR l false k = to := by rw [← Htr.out, run_stop _ _ _ hct]
           exact ⟨ret_int (by rw [hen]), by first | rfl | trivial⟩)
    · go_wp2_with fail
      go_ret
      have hen : endRR l false k = to := by rw [← Htr.out, show l.length - to = 0 from by omega]; rfl
      exact ⟨ret_int (by rw [hen]; omega), by first | rfl | trivial⟩

set_option maxHeartbeats 4000000 in
set_option maxRecDepth 100000 in
theorem rrun_dt (l : List UInt8) (k : Nat) (w : World) (hs : l.length ≤ 1125899906842624) (hk : k < l.length) (hd : dg 10 l[k] = true) (hh : headedR 120 88 (l.drop k) = true) :
    Calls Try.prog 24 #[.string ⟨l.toArray⟩, .int .i64 k] w fun e w' => e = .returned (.int .i64 (endRR l true k)) ∧ w = w' := by
  go_enter Try.func24, Try.ntmps24
  go_wp2_with (first
    | (go_at_call 31; refine (rheaded _ _ _ _ (by (try simp); omega)).mono ?_; rintro e w1 ⟨rfl, rfl⟩)
    | (go_at_call 34; refine (rdigit _ _ _ (by omega) (by omega)).mono ?_; rintro e w1 ⟨rfl, rfl⟩))
  clear hd
  go_loop [6] (fun u => ∃ to : Nat, k ≤ to ∧ to ≤ l.length ∧ u = .int .i64 to ∧ runF (contR l true k) (l.length - to) to = endRR l true k) (fun u => l.length - (intOf u).toNat)
  case atStart => exact ⟨k, Nat.le_refl _, by omega, rfl, rfl⟩
  case round =>
    obtain ⟨to, hto, hle, rfl, htr⟩ := hrel
    have Htr := Lib.hid htr
    clear htr
    by_cases hlt : to < l.length
    · have gi : l[to]?.getD 0 = l[to] := by simp [hlt]
      have Gi := Lib.hid gi
      clear gi
      go_wp2_with fail
      all_goals first
        | (go_round
           case rel =>
             go_tidy; have gi := Gi.out
             have hct : contR l true k to = true := by first | (simp_all [contR, alR, bat]; done) | (simp_all [contR, alR, bat]; omega)
             exact ⟨to + 1, by omega, by omega, by go_num, by rw [← Htr.out, run_step _ _ _ hct hlt]⟩
           case measure => simp [intOf]; omega)
        | (go_ret
           go_tidy; have gi := Gi.out
           have hct : contR l true k to = false := by
             simp only [contR, alR, bat, Bool.or_eq_false_iff, Bool.and_eq_false_iff, decide_eq_false_iff_not]
             first | (simp_all; done) | (simp_all; omega)
           have hen : endRR l true k = to := by rw [← Htr.out, run_stop _ _ _ hct]
           exact ⟨ret_int (by rw [hen]), by first | rfl | trivial⟩)
    · go_wp2_with fail
      go_ret
      have hen : endRR l true k = to := by rw [← Htr.out, show l.length - to = 0 from by omega]; rfl
      exact ⟨ret_int (by rw [hen]; omega), by first | rfl | trivial⟩

set_option maxHeartbeats 4000000 in
set_option maxRecDepth 100000 in
theorem rrun_pt (l : List UInt8) (k : Nat) (w : World) (hs : l.length ≤ 1125899906842624) (hk : k < l.length) (hd : dg 10 l[k] = false) (h46 : (l[k].toNat : Int) = 46) (hk1 : k + 1 < l.length) (hd1 : dg 10 l[k + 1] = true) (hh : headedR 120 88 (l.drop k) = true) :
    Calls Try.prog 24 #[.string ⟨l.toArray⟩, .int .i64 k] w fun e w' => e = .returned (.int .i64 (endRR l true k)) ∧ w = w' := by
  have k2 : ((k : Int) + 1 == l.length) = false := by simp; omega
  have h46' : ((l[k].toNat : Int) != 46) = false := by simp [h46]
  have k3 : (k : Int) + 1 < l.length := by omega
  have k4 : 0 ≤ (k : Int) + 1 := by omega
  clear h46
  go_enter Try.func24, Try.ntmps24
  go_wp2_with (first
    | (go_at_call 31; refine (rheaded _ _ _ _ (by (try simp); omega)).mono ?_; rintro e w1 ⟨rfl, rfl⟩)
    | (go_at_call 34; refine (rdigit _ _ _ (by omega) (by omega)).mono ?_; rintro e w1 ⟨rfl, rfl⟩))
  clear hd
  go_loop [6] (fun u => ∃ to : Nat, k ≤ to ∧ to ≤ l.length ∧ u = .int .i64 to ∧ runF (contR l true k) (l.length - to) to = endRR l true k) (fun u => l.length - (intOf u).toNat)
  case atStart => exact ⟨k, Nat.le_refl _, by omega, rfl, rfl⟩
  case round =>
    obtain ⟨to, hto, hle, rfl, htr⟩ := hrel
    have Htr := Lib.hid htr
    clear htr
    by_cases hlt : to < l.length
    · have gi : l[to]?.getD 0 = l[to] := by simp [hlt]
      have Gi := Lib.hid gi
      clear gi
      go_wp2_with fail
      all_goals first
        | (go_round
           case rel =>
             go_tidy; have gi := Gi.out
             have hct : contR l true k to = true := by first | (simp_all [contR, alR, bat]; done) | (simp_all [contR, alR, bat]; omega)
             exact ⟨to + 1, by omega, by omega, by go_num, by rw [← Htr.out, run_step _ _ _ hct hlt]⟩
           case measure => simp [intOf]; omega)
        | (go_ret
           go_tidy; have gi := Gi.out
           have hct : contR l true k to = false := by
             simp only [contR, alR, bat, Bool.or_eq_false_iff, Bool.and_eq_false_iff, decide_eq_false_iff_not]
             first | (simp_all; done) | (simp_all; omega)
           have hen : endRR l true k = to := by rw [← Htr.out, run_stop _ _ _ hct]
           exact ⟨ret_int (by rw [hen]), by first | rfl | trivial⟩)
    · go_wp2_with fail
      go_ret
      have hen : endRR l true k = to := by rw [← Htr.out, show l.length - to = 0 from by omega]; rfl
      exact ⟨ret_int (by rw [hen]; omega), by first | rfl | trivial⟩

end Go.Proofs.Ytdebafbhphobcaa
