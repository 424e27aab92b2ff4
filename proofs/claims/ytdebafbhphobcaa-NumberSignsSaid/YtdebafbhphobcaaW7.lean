import Derived.Test.YtdebafbhphobcaaW6
namespace Go.Proofs.Ytdebafbhphobcaa
open Go.RowKit

def realL (l : List UInt8) : Int :=
  match l with
  | z :: c :: r => if (z.toNat : Int) = 48 then
      (if (c.toNat : Int) = 98 ∨ (c.toNat : Int) = 66 then wholeL 2 r
       else if (c.toNat : Int) = 111 ∨ (c.toNat : Int) = 79 then wholeL 8 r
       else if (c.toNat : Int) = 120 ∨ (c.toNat : Int) = 88 then sixL r else tenL l) else tenL l
  | _ => tenL l

set_option maxHeartbeats 1000000 in
theorem real_any (l : List UInt8) (w : World) (hs : l.length ≤ 1125899906842624) :
    Calls Try.prog 15 #[.string ⟨l.toArray⟩] w fun e w' => e = .returned (.int .u8 (realL l)) ∧ Below w.heap.size w w' := by
  match l, hs with
  | [], hs =>
    go_enter Try.func15, Try.ntmps15
    go_wp2_with (first
      | (go_at_call 27; refine (ten_any [] _ (by simp)).mono ?_; rintro e w1 ⟨rfl, hb⟩))
    go_ret
    exact ⟨rfl, hb⟩
  | [z], hs =>
    go_enter Try.func15, Try.ntmps15
    go_wp2_with (first
      | (go_at_call 27; refine (ten_any [z] _ (by simp)).mono ?_; rintro e w1 ⟨rfl, hb⟩))
    go_ret
    exact ⟨rfl, hb⟩
  | z :: c :: r, hs =>
    simp only [List.length_cons] at hs
    go_enter Try.func15, Try.ntmps15
    go_wp2_with (first
      | (go_at_call 27; refine (ten_any (z :: c :: r) _ (by (try simp); omega)).mono ?_; rintro e w1 ⟨rfl, hb⟩)
      | (go_at_call 26; refine (six_any _ _ (by (try simp); omega)).mono ?_; rintro e w1 ⟨rfl, hb⟩)
      | (go_at_call 25; refine (whole_l _ _ _ (by (try simp); omega) (by omega)).mono ?_; rintro e w1 ⟨rfl, hb⟩))
    all_goals go_ret
    all_goals refine ⟨ret_int ?_, hb⟩
    all_goals clear hb
    all_goals simp only [realL, beq_iff_eq, beq_eq_false_iff_ne] at *
    all_goals (repeat' split)
    all_goals first | rfl | omega | (simp_all; done) | (simp_all; omega)

def kindL (l : List UInt8) : Int :=
  if realL l ≠ 0 then realL l
  else if Lib.hasSuffix l [105] = true then
    (if realL (l.take (l.length - 1)) ≠ 0 ∨ (l.take (l.length - 1) ≠ [] ∧ rowL 10 (l.take (l.length - 1)) = (l.take (l.length - 1)).length) then 5 else 0)
  else 0
theorem suf_len (l : List UInt8) (c : UInt8) (h : Lib.hasSuffix l [c] = true) : 1 ≤ l.length := by
  cases l with
  | nil => simp [Lib.hasSuffix, List.isSuffixOf] at h
  | cons _ _ => simp
set_option maxHeartbeats 1000000 in
theorem kind_any (l : List UInt8) (w : World) (hs : l.length ≤ 1125899906842624) :
    Calls Try.prog 10 #[.string ⟨l.toArray⟩] w fun e w' => e = .returned (.int .u8 (kindL l)) ∧ Below w.heap.size w w' := by
  have hb := Below.refl w.heap.size w
  by_cases hsuf : Lib.hasSuffix l [105] = true
  · have h1 := suf_len l 105 hsuf
    go_enter Try.func10, Try.ntmps10
    go_wp2_with (first
      | (go_at_call 15; refine (real_any _ _ (by (try simp); omega)).mono ?_; rintro e w1 ⟨rfl, hn⟩; replace hb := bthen hb hn)
      | (go_at_call 16; refine (suf_l _ _ _ hs).mono ?_; rintro e w1 ⟨rfl, rfl⟩)
      | (go_at_call 17; refine (row_l _ _ _ (by (try simp); omega) (by omega)).mono ?_; rintro e w1 ⟨rfl, hle, hn⟩; replace hb := bthen hb hn))
    all_goals go_ret
    all_goals refine ⟨ret_int ?_, hb⟩
    all_goals clear hb hn
    all_goals simp only [kindL, beq_iff_eq, bne_iff_ne, ne_eq] at *
    all_goals (repeat' split)
    all_goals first | rfl | omega | (simp_all; done) | (simp_all; omega)
  · have hsuf' : Lib.hasSuffix l [105] = false := by simpa using hsuf
    clear hsuf
    go_enter Try.func10, Try.ntmps10
    go_wp2_with (first
      | (go_at_call 15; refine (real_any _ _ (by (try simp); omega)).mono ?_; rintro e w1 ⟨rfl, hn⟩; replace hb := bthen hb hn)
      | (go_at_call 16; refine (suf_l _ _ _ hs).mono ?_; rintro e w1 ⟨rfl, rfl⟩))
    all_goals go_ret
    all_goals (refine ⟨ret_int ?_, hb⟩; simp_all [kindL])

def beginsL (l : List UInt8) (k : Int) : Bool :=
  decide (0 ≤ k ∧ k < l.length) && (decide (val (bat l k.toNat) < 10) || (decide (bat l k.toNat = 46) && decide (k + 1 < l.length) && decide (val (bat l (k.toNat + 1)) < 10)))

set_option maxHeartbeats 1000000 in
theorem begins_any (l : List UInt8) (at' : Int) (w : World) (hs : l.length ≤ 1125899906842624) :
    Calls Try.prog 21 #[.string ⟨l.toArray⟩, .int .i64 at'] w fun e w' => e = .returned (.bool (beginsL l at')) ∧ w = w' := by
  by_cases h0 : 0 ≤ at'
  · obtain ⟨k, rfl⟩ := Int.eq_ofNat_of_zero_le h0
    by_cases hk : k < l.length
    · go_enter Try.func21, Try.ntmps21
      go_wp2_with (first | (go_at_call 23; refine (value_byte _ _).mono ?_; rintro e w1 ⟨rfl, rfl⟩))
      all_goals go_ret
      all_goals refine ⟨ret_val (congrArg Value.bool ?_), rfl⟩
      all_goals simp only [beginsL, bat]
      all_goals first | (simp_all; done) | (simp_all; omega)
    · have hk' : l.length ≤ k := by omega
      go_enter Try.func21, Try.ntmps21
      go_wp2_with fail
      all_goals go_ret
      all_goals exact ⟨by simp [beginsL]; omega, rfl⟩
  · go_enter Try.func21, Try.ntmps21
    go_wp2_with fail
    all_goals go_ret
    all_goals exact ⟨by simp [beginsL]; omega, rfl⟩
end Go.Proofs.Ytdebafbhphobcaa
