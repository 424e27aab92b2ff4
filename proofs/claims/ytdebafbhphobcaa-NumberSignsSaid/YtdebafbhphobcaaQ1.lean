import Derived.Test.YtdebafbhphobcaaP5
import Derived.Test.YtdebafbhphobcaaX4
namespace Go.Proofs.Ytdebafbhphobcaa
open Go.RowKit

theorem begins_eq (l : List UInt8) (k : Nat) : beginsL l k = beginsR l k := by
  unfold beginsL beginsR dg
  rw [Bool.eq_iff_iff]
  simp only [Bool.and_eq_true, Bool.or_eq_true, decide_eq_true_eq, Int.toNat_natCast]
  constructor
  · rintro ⟨h1, h2⟩
    refine ⟨by omega, ?_⟩
    rcases h2 with h2 | h2
    · exact .inl h2
    · exact .inr ⟨⟨h2.1.1, by omega⟩, h2.2⟩
  · rintro ⟨h1, h2⟩
    refine ⟨by omega, ?_⟩
    rcases h2 with h2 | h2
    · exact .inl h2
    · exact .inr ⟨⟨h2.1.1, by omega⟩, h2.2⟩
theorem begins_neg (l : List UInt8) (a : Int) (h : a < 0) : beginsL l a = false := by
  unfold beginsL; rw [decide_eq_false (by omega)]; rfl
theorem hexB_eq (l : List UInt8) (k : Nat) : hexB l k = headedR 120 88 (l.drop k) := by
  unfold hexB
  generalize l.drop k = t
  match t with
  | [] => simp [Lib.hasPrefix, headedR]
  | [z] => simp [Lib.hasPrefix, headedR, List.isPrefixOf]
  | z :: c :: r =>
    rw [headed_cons]
    simp only [Lib.hasPrefix, List.isPrefixOf, Bool.and_true]
    rw [Bool.eq_iff_iff]
    have e1 := i48 z
    have e2 := u8n c 120 (by decide)
    have e3 := u8n c 88 (by decide)
    simp only [Bool.or_eq_true, Bool.and_eq_true, beq_iff_eq, decide_eq_true_eq]
    constructor
    · rintro (⟨h1, h2⟩ | ⟨h1, h2⟩)
      · exact ⟨e1.2 h1.symm, .inl (e2.2 h2.symm)⟩
      · exact ⟨e1.2 h1.symm, .inr (e3.2 h2.symm)⟩
    · rintro ⟨h1, h2 | h2⟩
      · exact .inl ⟨(e1.1 h1).symm, (e2.1 h2).symm⟩
      · exact .inr ⟨(e1.1 h1).symm, (e3.1 h2).symm⟩
theorem al_eq (c : UInt8) : alB (c.toNat : Int) = alR (c.toNat : Int) := by
  unfold alB alR val
  have := c.toNat_lt
  rw [Bool.eq_iff_iff]
  simp only [decide_eq_true_eq]
  omega
theorem low_tab : ∀ c : Fin 256, decide (lowI (c.val : Int) = 112) = decide ((c.val : Int) = 112 ∨ (c.val : Int) = 80) ∧ decide (lowI (c.val : Int) = 101) = decide ((c.val : Int) = 101 ∨ (c.val : Int) = 69) := by decide +kernel
theorem cont_eq (l : List UInt8) (hex : Bool) (k to : Nat) : contL l hex k to = contR l hex k to := by
  unfold contL contR bat
  rw [al_eq]
  have h := low_tab ⟨(l[to - 1]?.getD 0).toNat, (l[to - 1]?.getD 0).toNat_lt⟩
  simp only [] at h
  congr 1
  rw [Bool.and_comm (decide _) (decide (k < to))]
  congr 1
  cases hex
  · simp only [Bool.false_eq_true, if_false, Bool.not_false, Bool.true_and, Bool.false_and, Bool.or_false]; exact h.2
  · simp only [if_true, Bool.not_true, Bool.true_and, Bool.false_and, Bool.false_or]; exact h.1
theorem end_eq (l : List UInt8) (hex : Bool) (k : Nat) : endR l hex k = endRR l hex k := by
  unfold endR endRR
  have : contL l hex k = contR l hex k := funext fun i => cont_eq l hex k i
  rw [this]
theorem runF_le (cont : Nat → Bool) : ∀ (f to : Nat), to ≤ runF cont f to ∧ runF cont f to ≤ to + f := by
  intro f
  induction f with
  | zero => intro to; exact ⟨Nat.le_refl _, Nat.le_refl _⟩
  | succ f ih =>
    intro to; rw [runF]; split
    · have := ih (to + 1); omega
    · omega
theorem endRR_gt (l : List UInt8) (hex : Bool) (k : Nat) (h : beginsR l k = true) : k < endRR l hex k ∧ endRR l hex k ≤ l.length := by
  have h2 : k < l.length ∧ alR (bat l k) = true := by
    unfold beginsR at h
    simp only [Bool.and_eq_true, Bool.or_eq_true, decide_eq_true_eq, dg] at h
    refine ⟨h.1, ?_⟩
    unfold alR bat at *
    have := (l[k]?.getD 0).toNat_lt
    simp only [decide_eq_true_eq]
    rcases h.2 with h3 | h3
    · unfold val at h3; omega
    · omega
  unfold endRR
  obtain ⟨f, hf⟩ : ∃ f, l.length - k = f + 1 := ⟨l.length - k - 1, by omega⟩
  have hc : contR l hex k k = true := by unfold contR; rw [h2.2]; rfl
  rw [hf, runF, if_pos hc]
  have := runF_le (contR l hex k) f (k + 1)
  omega
/-- what both answer -/
def scanA (l : List UInt8) (a : Int) : Int × Int × Int := if beginsL l a = true then scanR l (hexB l a.toNat) a.toNat else (0, 0, 15)
def scanT (t : Int × Int × Int) : Value := .tuple #[.int .u8 t.1, .int .i64 t.2.1, .int .i64 t.2.2]

set_option maxHeartbeats 1000000 in
theorem scan_all (l : List UInt8) (a : Int) (w : World) (hs : l.length ≤ 1125899906842624) :
    Calls Try.prog 12 #[.string ⟨l.toArray⟩, .int .i64 a] w fun e w' => e = .returned (scanT (scanA l a)) ∧ Below w.heap.size w w' := by
  by_cases h0 : beginsL l a = true
  · have ha : 0 ≤ a := by
      apply Classical.byContradiction; intro hn; rw [begins_neg l a (by omega)] at h0; cases h0
    obtain ⟨k, rfl⟩ := Int.eq_ofNat_of_zero_le ha
    have hk : k < l.length := by
      rw [begins_eq] at h0; unfold beginsR at h0; simp only [Bool.and_eq_true, decide_eq_true_eq] at h0; exact h0.1
    unfold scanA
    rw [if_pos h0, Int.toNat_natCast]
    by_cases h1 : Lib.hasPrefix (l.drop k) [48, 120] = true
    · have : hexB l k = true := by simp [hexB, h1]
      rw [this]; exact scan_x l k w hs hk h0 h1
    · have h1 : Lib.hasPrefix (l.drop k) [48, 120] = false := by simpa using h1
      by_cases h2 : Lib.hasPrefix (l.drop k) [48, 88] = true
      · have : hexB l k = true := by simp [hexB, h2]
        rw [this]; exact scan_X l k w hs hk h0 h1 h2
      · have h2 : Lib.hasPrefix (l.drop k) [48, 88] = false := by simpa using h2
        have : hexB l k = false := by simp [hexB, h1, h2]
        rw [this]; exact scan_no l k w hs hk h0 h1 h2
  · have h0 : beginsL l a = false := by simpa using h0
    unfold scanA
    rw [if_neg (by simp [h0])]
    go_enter Try.func12, Try.ntmps12
    go_wp2_with (first | (go_at_call 21; refine (begins_any _ _ _ hs).mono ?_; rintro e w1 ⟨rfl, rfl⟩))
    go_ret3
    exact ⟨rfl, Below.refl _ _⟩

theorem rrun_yes (l : List UInt8) (k : Nat) (w : World) (hs : l.length ≤ 1125899906842624) (h : beginsR l k = true) :
    Calls Try.prog 24 #[.string ⟨l.toArray⟩, .int .i64 k] w fun e w' => e = .returned (.int .i64 (endRR l (headedR 120 88 (l.drop k)) k)) ∧ w = w' := by
  have hk : k < l.length := by unfold beginsR at h; simp only [Bool.and_eq_true, decide_eq_true_eq] at h; exact h.1
  unfold beginsR at h
  simp only [bat, Bool.and_eq_true, Bool.or_eq_true, decide_eq_true_eq, List.getElem?_eq_getElem hk, Option.getD_some] at h
  by_cases hd : dg 10 l[k] = true
  · cases hh : headedR 120 88 (l.drop k)
    · exact rrun_df l k w hs hk hd hh
    · exact rrun_dt l k w hs hk hd hh
  · have h := h.2.resolve_left hd
    have hd : dg 10 l[k] = false := by simpa using hd
    have h3 := h.2
    rw [List.getElem?_eq_getElem h.1.2] at h3
    cases hh : headedR 120 88 (l.drop k)
    · exact rrun_pf l k w hs hk hd h.1.1 h.1.2 h3 hh
    · exact rrun_pt l k w hs hk hd h.1.1 h.1.2 h3 hh

set_option maxHeartbeats 1000000 in
theorem rscan (l : List UInt8) (a : Int) (w : World) (hs : l.length ≤ 1125899906842624) :
    Calls Try.prog 13 #[.string ⟨l.toArray⟩, .int .i64 a] w fun e w' => e = .returned (scanT (scanA l a)) ∧ w = w' := by
  by_cases h0 : beginsL l a = true
  · have ha : 0 ≤ a := by
      apply Classical.byContradiction; intro hn; rw [begins_neg l a (by omega)] at h0; cases h0
    obtain ⟨k, rfl⟩ := Int.eq_ofNat_of_zero_le ha
    have hR : beginsR l k = true := by rw [← begins_eq]; exact h0
    have hgt := endRR_gt l (headedR 120 88 (l.drop k)) k hR
    have hfin : scanA l k = if kindR ((l.drop k).take (endRR l (headedR 120 88 (l.drop k)) k - k)) ≠ 0 then (kindR ((l.drop k).take (endRR l (headedR 120 88 (l.drop k)) k - k)), (endRR l (headedR 120 88 (l.drop k)) k : Int), 0) else (0, 0, 4) := by
      unfold scanA
      rw [if_pos h0, Int.toNat_natCast]
      unfold scanR
      simp only [hexB_eq, end_eq, kind_eq]
    have Hfin := Lib.hid hfin
    have H1 := rrun_yes l k w hs hR
    generalize endRR l (headedR 120 88 (l.drop k)) k = to at *
    have HH := Lib.hid H1
    clear hfin h0 hR H1
    obtain ⟨g1, g2⟩ := hgt
    have hne : ((to : Int) == k) = false := by simp; omega
    go_enter Try.func13, Try.ntmps13
    go_wp2_with (first
      | (go_at_call 24; refine HH.out.mono ?_; rintro e w1 ⟨rfl, rfl⟩)
      | (go_at_call 11; refine (rkind _ _ (by (try simp); omega)).mono ?_; rintro e w1 ⟨rfl, rfl⟩))
    all_goals go_ret3
    all_goals
      (go_tidy
       rw [Hfin.out]
       refine ⟨ret_val ?_, by first | rfl | trivial⟩
       unfold scanT
       simp_all)
  · have h0 : beginsL l a = false := by simpa using h0
    have hno : a < 0 ∨ beginsR l a.toNat = false := by
      by_cases h : a < 0
      · exact .inl h
      · right; rw [← begins_eq, Int.toNat_of_nonneg (by omega)]; exact h0
    unfold scanA
    rw [if_neg (by simp [h0])]
    go_enter Try.func13, Try.ntmps13
    go_wp2_with (first | (go_at_call 24; refine (rrun_no _ _ _ hs hno).mono ?_; rintro e w1 ⟨rfl, rfl⟩))
    all_goals go_ret3
    all_goals exact ⟨rfl, by first | rfl | trivial⟩
end Go.Proofs.Ytdebafbhphobcaa
