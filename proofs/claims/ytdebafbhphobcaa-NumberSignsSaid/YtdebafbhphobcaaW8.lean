import Derived.Test.YtdebafbhphobcaaW7
namespace Go.Proofs.Ytdebafbhphobcaa
open Go.RowKit

def alB (c : Int) : Bool := decide (c = 95 ∨ c = 46 ∨ val c < 10 ∨ (97 ≤ c ∧ c ≤ 122) ∨ (65 ≤ c ∧ c ≤ 90))
def runF (cont : Nat → Bool) : Nat → Nat → Nat
  | 0, to => to
  | f + 1, to => if cont to then runF cont f (to + 1) else to
def hexB (l : List UInt8) (k : Nat) : Bool := Lib.hasPrefix (l.drop k) [48, 120] || Lib.hasPrefix (l.drop k) [48, 88]
def lowI (c : Int) : Int := bits BinOp.or IntKind.u8 c 32
def contL (l : List UInt8) (hex : Bool) (k to : Nat) : Bool :=
  alB (bat l to) || (decide (bat l to = 43 ∨ bat l to = 45) && decide (k < to) && (if hex then decide (lowI (bat l (to - 1)) = 112) else decide (lowI (bat l (to - 1)) = 101)))
def endR (l : List UInt8) (hex : Bool) (k : Nat) : Nat := runF (contL l hex k) (l.length - k) k
def scanR (l : List UInt8) (hex : Bool) (k : Nat) : Int × Int × Int :=
  let K := kindL ((l.drop k).take (endR l hex k - k))
  if K ≠ 0 then (K, (endR l hex k : Int), 0) else (0, 0, 4)
theorem run_step (cont : Nat → Bool) (n to : Nat) (h : cont to = true) (ht : to < n) : runF cont (n - to) to = runF cont (n - (to + 1)) (to + 1) := by
  obtain ⟨f, hf⟩ : ∃ f, n - to = f + 1 := ⟨n - to - 1, by omega⟩
  rw [hf, runF, if_pos h]; congr 1; omega
theorem run_stop (cont : Nat → Bool) (f to : Nat) (h : cont to = false) : runF cont f to = to := by
  cases f with
  | zero => rfl
  | succ f => rw [runF, if_neg (by simp [h])]
theorem scan_end (l : List UInt8) (hex : Bool) (k to : Nat) (h : endR l hex k = to) :
    scanR l hex k = if kindL ((l.drop k).take (to - k)) ≠ 0 then (kindL ((l.drop k).take (to - k)), (to : Int), 0) else (0, 0, 4) := by
  subst h; rfl

set_option maxHeartbeats 4000000 in
set_option maxRecDepth 100000 in
theorem scan_x (l : List UInt8) (k : Nat) (w : World) (hs : l.length ≤ 1125899906842624) (hk : k < l.length) (hbeg : beginsL l k = true) 
    (hh1 : Lib.hasPrefix (l.drop k) [48, 120] = true) :
    Calls Try.prog 12 #[.string ⟨l.toArray⟩, .int .i64 k] w fun e w' => e = .returned (.tuple #[.int .u8 (scanR l true k).1, .int .i64 (scanR l true k).2.1, .int .i64 (scanR l true k).2.2]) ∧ Below w.heap.size w w' := by
  go_enter Try.func12, Try.ntmps12
  go_wp2_with (first 
    | (go_at_call 21; refine (begins_any _ _ _ hs).mono ?_; rintro e w1 ⟨rfl, rfl⟩)
    | (go_at_call 22; refine (pre_l _ _ _).mono ?_; rintro e w1 ⟨rfl, rfl⟩))
  go_loop [8] (fun u => ∃ to : Nat, k ≤ to ∧ to ≤ l.length ∧ u = .int .i64 to ∧ runF (contL l true k) (l.length - to) to = endR l true k) (fun u => l.length - (intOf u).toNat)
  case atStart => exact ⟨k, Nat.le_refl _, by omega, rfl, rfl⟩
  case round =>
    obtain ⟨to, hto, hle, rfl, htr⟩ := hrel
    have Htr := Lib.hid htr
    clear htr hbeg
    by_cases hlt : to < l.length
    · go_wp2_with (first 
        | (go_at_call 23; refine (value_byte _ _).mono ?_; rintro e w1 ⟨rfl, rfl⟩)
        | (go_at_call 10; refine (kind_any _ _ (by (try simp); omega)).mono ?_; rintro e w1 ⟨rfl, hb⟩))
      all_goals first
        | (go_round
           case rel =>
             have hct : contL l true k to = true := by first | (simp_all [contL, alB, bat, lowI]; done) | (simp_all [contL, alB, bat, lowI]; omega)
             exact ⟨to + 1, by omega, by omega, by go_num, by rw [← Htr.out, run_step _ _ _ hct hlt]⟩
           case measure => simp [intOf]; omega)
        | (go_ret3
           have hct : contL l true k to = false := by
             clear hb
             simp only [contL, alB, bat, lowI, Bool.or_eq_false_iff, Bool.and_eq_false_iff, decide_eq_false_iff_not]
             simp_all <;> omega
           have hen : endR l true k = to := by rw [← Htr.out, run_stop _ _ _ hct]
           refine ⟨ret_val ?_, hb⟩
           rw [scan_end _ _ _ _ hen]
           simp_all)
    · go_wp2_with (first 
        | (go_at_call 10; refine (kind_any _ _ (by (try simp); omega)).mono ?_; rintro e w1 ⟨rfl, hb⟩))
      all_goals
        (go_ret3
         have hen : endR l true k = to := by rw [← Htr.out, show l.length - to = 0 from by omega]; rfl
         refine ⟨ret_val ?_, hb⟩
         rw [scan_end _ _ _ _ hen]
         simp_all)

set_option maxHeartbeats 4000000 in
set_option maxRecDepth 100000 in
theorem scan_X (l : List UInt8) (k : Nat) (w : World) (hs : l.length ≤ 1125899906842624) (hk : k < l.length) (hbeg : beginsL l k = true) 
    (hh1 : Lib.hasPrefix (l.drop k) [48, 120] = false) (hh2 : Lib.hasPrefix (l.drop k) [48, 88] = true) :
    Calls Try.prog 12 #[.string ⟨l.toArray⟩, .int .i64 k] w fun e w' => e = .returned (.tuple #[.int .u8 (scanR l true k).1, .int .i64 (scanR l true k).2.1, .int .i64 (scanR l true k).2.2]) ∧ Below w.heap.size w w' := by
  go_enter Try.func12, Try.ntmps12
  go_wp2_with (first 
    | (go_at_call 21; refine (begins_any _ _ _ hs).mono ?_; rintro e w1 ⟨rfl, rfl⟩)
    | (go_at_call 22; refine (pre_l _ _ _).mono ?_; rintro e w1 ⟨rfl, rfl⟩))
  go_loop [8] (fun u => ∃ to : Nat, k ≤ to ∧ to ≤ l.length ∧ u = .int .i64 to ∧ runF (contL l true k) (l.length - to) to = endR l true k) (fun u => l.length - (intOf u).toNat)
  case atStart => exact ⟨k, Nat.le_refl _, by omega, rfl, rfl⟩
  case round =>
    obtain ⟨to, hto, hle, rfl, htr⟩ := hrel
    have Htr := Lib.hid htr
    clear htr hbeg
    by_cases hlt : to < l.length
    · go_wp2_with (first 
        | (go_at_call 23; refine (value_byte _ _).mono ?_; rintro e w1 ⟨rfl, rfl⟩)
        | (go_at_call 10; refine (kind_any _ _ (by (try simp); omega)).mono ?_; rintro e w1 ⟨rfl, hb⟩))
      all_goals first
        | (go_round
           case rel =>
             have hct : contL l true k to = true := by first | (simp_all [contL, alB, bat, lowI]; done) | (simp_all [contL, alB, bat, lowI]; omega)
             exact ⟨to + 1, by omega, by omega, by go_num, by rw [← Htr.out, run_step _ _ _ hct hlt]⟩
           case measure => simp [intOf]; omega)
        | (go_ret3
           have hct : contL l true k to = false := by
             clear hb
             simp only [contL, alB, bat, lowI, Bool.or_eq_false_iff, Bool.and_eq_false_iff, decide_eq_false_iff_not]
             simp_all <;> omega
           have hen : endR l true k = to := by rw [← Htr.out, run_stop _ _ _ hct]
           refine ⟨ret_val ?_, hb⟩
           rw [scan_end _ _ _ _ hen]
           simp_all)
    · go_wp2_with (first 
        | (go_at_call 10; refine (kind_any _ _ (by (try simp); omega)).mono ?_; rintro e w1 ⟨rfl, hb⟩))
      all_goals
        (go_ret3
         have hen : endR l true k = to := by rw [← Htr.out, show l.length - to = 0 from by omega]; rfl
         refine ⟨ret_val ?_, hb⟩
         rw [scan_end _ _ _ _ hen]
         simp_all)

set_option maxHeartbeats 4000000 in
set_option maxRecDepth 100000 in
theorem scan_no (l : List UInt8) (k : Nat) (w : World) (hs : l.length ≤ 1125899906842624) (hk : k < l.length) (hbeg : beginsL l k = true) 
    (hh1 : Lib.hasPrefix (l.drop k) [48, 120] = false) (hh2 : Lib.hasPrefix (l.drop k) [48, 88] = false) :
    Calls Try.prog 12 #[.string ⟨l.toArray⟩, .int .i64 k] w fun e w' => e = .returned (.tuple #[.int .u8 (scanR l false k).1, .int .i64 (scanR l false k).2.1, .int .i64 (scanR l false k).2.2]) ∧ Below w.heap.size w w' := by
  go_enter Try.func12, Try.ntmps12
  go_wp2_with (first 
    | (go_at_call 21; refine (begins_any _ _ _ hs).mono ?_; rintro e w1 ⟨rfl, rfl⟩)
    | (go_at_call 22; refine (pre_l _ _ _).mono ?_; rintro e w1 ⟨rfl, rfl⟩))
  go_loop [8] (fun u => ∃ to : Nat, k ≤ to ∧ to ≤ l.length ∧ u = .int .i64 to ∧ runF (contL l false k) (l.length - to) to = endR l false k) (fun u => l.length - (intOf u).toNat)
  case atStart => exact ⟨k, Nat.le_refl _, by omega, rfl, rfl⟩
  case round =>
    obtain ⟨to, hto, hle, rfl, htr⟩ := hrel
    have Htr := Lib.hid htr
    clear htr hbeg
    by_cases hlt : to < l.length
    · go_wp2_with (first 
        | (go_at_call 23; refine (value_byte _ _).mono ?_; rintro e w1 ⟨rfl, rfl⟩)
        | (go_at_call 10; refine (kind_any _ _ (by (try simp); omega)).mono ?_; rintro e w1 ⟨rfl, hb⟩))
      all_goals first
        | (go_round
           case rel =>
             have hct : contL l false k to = true := by first | (simp_all [contL, alB, bat, lowI]; done) | (simp_all [contL, alB, bat, lowI]; omega)
             exact ⟨to + 1, by omega, by omega, by go_num, by rw [← Htr.out, run_step _ _ _ hct hlt]⟩
           case measure => simp [intOf]; omega)
        | (go_ret3
           have hct : contL l false k to = false := by
             clear hb
             simp only [contL, alB, bat, lowI, Bool.or_eq_false_iff, Bool.and_eq_false_iff, decide_eq_false_iff_not]
             simp_all <;> omega
           have hen : endR l false k = to := by rw [← Htr.out, run_stop _ _ _ hct]
           refine ⟨ret_val ?_, hb⟩
           rw [scan_end _ _ _ _ hen]
           simp_all)
    · go_wp2_with (first 
        | (go_at_call 10; refine (kind_any _ _ (by (try simp); omega)).mono ?_; rintro e w1 ⟨rfl, hb⟩))
      all_goals
        (go_ret3
         have hen : endR l false k = to := by rw [← Htr.out, show l.length - to = 0 from by omega]; rfl
         refine ⟨ret_val ?_, hb⟩
         rw [scan_end _ _ _ _ hen]
         simp_all)
end Go.Proofs.Ytdebafbhphobcaa
