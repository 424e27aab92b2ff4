import Derived.Test.YtdebafbhphobcaaW5
namespace Go.Proofs.Ytdebafbhphobcaa
open Go.RowKit

theorem trim_l (l p : List UInt8) (w : World) :
    Calls Try.prog 36 #[.string ⟨l.toArray⟩, .string ⟨p.toArray⟩] w fun e w' => e = .returned (.string ⟨(Lib.trimPrefix l p).toArray⟩) ∧ (Lib.trimPrefix l p).length ≤ l.length ∧ w = w' :=
  (Try.strings_TrimPrefix ⟨l.toArray⟩ ⟨p.toArray⟩ w).mono fun e w' ⟨h, h2⟩ => ⟨by simpa using h, trim_le _ _, h2.symm⟩
theorem pre_l (l p : List UInt8) (w : World) :
    Calls Try.prog 22 #[.string ⟨l.toArray⟩, .string ⟨p.toArray⟩] w fun e w' => e = .returned (.bool (Lib.hasPrefix l p)) ∧ w = w' :=
  (Try.strings_HasPrefix ⟨l.toArray⟩ ⟨p.toArray⟩ w).mono fun e w' ⟨h, h2⟩ => ⟨by simpa using h, h2.symm⟩
theorem suf_l (l p : List UInt8) (w : World) (hs : l.length ≤ 1125899906842624) :
    Calls Try.prog 16 #[.string ⟨l.toArray⟩, .string ⟨p.toArray⟩] w fun e w' => e = .returned (.bool (Lib.hasSuffix l p)) ∧ w = w' :=
  (Try.strings_HasSuffix ⟨l.toArray⟩ ⟨p.toArray⟩ w (by rw [size_mk]; omega)).mono fun e w' ⟨h, h2⟩ => ⟨by simpa using h, h2.symm⟩

def endP (t : List UInt8) (n k : Nat) : Int :=
  if 0 < powerL [112, 80] (t.drop (n + k)) ∧ n + k + powerL [112, 80] (t.drop (n + k)) = t.length then 4 else 0
def sixT (u : Bool) (t : List UInt8) : Int :=
  if rowL 16 t = 0 ∧ u = true then 0
  else if rowL 16 t < t.length ∧ bat t (rowL 16 t) = 46 then
    (if rowL 16 t + rowL 16 (t.drop (rowL 16 t + 1)) = 0 then 0 else endP t (rowL 16 t) (rowL 16 (t.drop (rowL 16 t + 1)) + 1))
  else if rowL 16 t = 0 then 0 else endP t (rowL 16 t) 0
def sixL (l : List UInt8) : Int := if wholeL 16 l ≠ 0 then 3 else sixT (Lib.hasPrefix l [95]) (Lib.trimPrefix l [95])

set_option maxHeartbeats 1000000 in
theorem six_any (l : List UInt8) (w : World) (hs : l.length ≤ 1125899906842624) :
    Calls Try.prog 26 #[.string ⟨l.toArray⟩] w fun e w' => e = .returned (.int .u8 (sixL l)) ∧ Below w.heap.size w w' := by
  have hb := Below.refl w.heap.size w
  by_cases h3 : wholeL 16 l = 0
  · have h3' : (wholeL 16 l != 0) = false := by simp [h3]
    have H3 := Lib.hid h3
    clear h3
    go_enter Try.func26, Try.ntmps26
    go_wp2_with (first
      | (go_at_call 25; refine (whole_l _ _ _ (by (try simp); omega) (by omega)).mono ?_; rintro e w1 ⟨rfl, hn⟩; replace hb := bthen hb hn)
      | (go_at_call 36; refine (trim_l _ _ _).mono ?_; rintro e w1 ⟨rfl, hle, rfl⟩)
      | (go_at_call 22; refine (pre_l _ _ _).mono ?_; rintro e w1 ⟨rfl, rfl⟩)
      | (go_at_call 37; refine (power_l _ _ _ (by (try simp); omega)).mono ?_; rintro e w1 ⟨rfl, hle, hn⟩; (try simp only [List.length_cons, List.length_drop, List.length_tail] at hle); replace hb := bthen hb hn)
      | (go_at_call 17; refine (row_l _ _ _ (by (try simp); omega) (by omega)).mono ?_; rintro e w1 ⟨rfl, hle, hn⟩; (try simp only [List.length_cons, List.length_drop, List.length_tail] at hle); replace hb := bthen hb hn))
    all_goals go_ret
    all_goals refine ⟨ret_int ?_, hb⟩
    all_goals (have h3 := H3.out; clear H3 hb hn)
    all_goals simp only [sixL, h3, ne_eq, not_true_eq_false, if_false]
    all_goals (generalize Lib.trimPrefix l [95] = t at *; generalize Lib.hasPrefix l [95] = u at *)
    all_goals (simp only [sixT, endP, bat, Nat.add_zero, Nat.zero_add, beq_iff_eq, beq_eq_false_iff_ne] at *)
    all_goals (repeat' split)
    all_goals first | omega | (simp_all; done) | (simp_all; omega)
  · have h3' : (wholeL 16 l != 0) = true := by simp [h3]
    have H3 := Lib.hid h3
    clear h3
    go_enter Try.func26, Try.ntmps26
    go_wp2_with (first
      | (go_at_call 25; refine (whole_l _ _ _ (by (try simp); omega) (by omega)).mono ?_; rintro e w1 ⟨rfl, hn⟩; replace hb := bthen hb hn))
    go_ret
    exact ⟨ret_int (by unfold sixL; rw [if_pos H3.out]), hb⟩
end Go.Proofs.Ytdebafbhphobcaa
