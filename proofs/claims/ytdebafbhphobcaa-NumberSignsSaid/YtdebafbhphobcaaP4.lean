import Derived.Test.YtdebafbhphobcaaP3
namespace Go.Proofs.Ytdebafbhphobcaa
open Go.RowKit

theorem parts_false (b : Int) (A B : List UInt8) : partsR b false A B = true ↔ DD b A B := by
  unfold partsR DD; simp
def float10 (l : List UInt8) : Bool := pointR 10 false l || anyF (decF l) l.length 0
theorem float10_iff (l : List UInt8) : float10 l = true ↔ (∃ A B Y, l = A ++ 46 :: (B ++ Y) ∧ (46 : UInt8) ∉ A ∧ DD 10 A B ∧ (Y = [] ∨ powerR 101 69 Y = true)) ∨ (∃ A Y, l = A ++ Y ∧ rowR 10 A = true ∧ powerR 101 69 Y = true) := by
  have h1 := any_split l (powerR 101 69) (fun X => pointR 10 false X || rowR 10 X)
  unfold float10
  rw [Bool.or_eq_true, point_iff]
  have h2 : (fun i => powerR 101 69 (l.drop i) && (fun X => pointR 10 false X || rowR 10 X) (l.take i)) = decF l := rfl
  rw [h2] at h1
  rw [h1]
  constructor
  · rintro (⟨A, B, e, hA, h⟩ | ⟨X, Y, e, hY, h⟩)
    · exact .inl ⟨A, B, [], by simpa using e, hA, (parts_false 10 A B).1 h, .inl rfl⟩
    · rw [Bool.or_eq_true, point_iff] at h
      rcases h with ⟨A, B, e2, hA, h⟩ | h
      · exact .inl ⟨A, B, Y, by rw [e, e2]; simp, hA, (parts_false 10 A B).1 h, .inr hY⟩
      · exact .inr ⟨X, Y, e, h, hY⟩
  · rintro (⟨A, B, Y, e, hA, h, hY⟩ | ⟨A, Y, e, h, hY⟩)
    · rcases hY with hY | hY
      · subst hY; exact .inl ⟨A, B, by simpa using e, hA, (parts_false 10 A B).2 h⟩
      · exact .inr ⟨A ++ 46 :: B, Y, by rw [e]; simp, hY, by rw [Bool.or_eq_true, point_iff]; exact .inl ⟨A, B, rfl, hA, (parts_false 10 A B).2 h⟩⟩
    · exact .inr ⟨A, Y, e, hY, by rw [Bool.or_eq_true]; exact .inr h⟩
theorem ten_float (l : List UInt8) (hn : ¬ (rowL 10 l = l.length ∧ 0 < rowL 10 l)) : (float10 l = true ↔ tenL l = 4) ∧ (tenL l = 4 ∨ tenL l = 0) := by
  have S := SysE
  constructor
  · rw [float10_iff]
    constructor
    · rintro (⟨A, B, Y, e, hA, h, hY⟩ | ⟨A, Y, e, h, hY⟩)
      · obtain ⟨e1, e2, e3, e4, e5, e6⟩ := S.dot_fwd h hY l e
        have := (h.full S.hb).2.2
        unfold tenL endL
        rw [if_neg hn, if_pos ⟨e2, e3⟩, if_neg (by omega), if_pos (by rw [e5]; omega)]
      · obtain ⟨e1, e2, e3, e4, e5⟩ := S.no_fwd h (.inr hY) l e
        have hY0 : 0 < Y.length := List.length_pos_iff.2 ((powE Y).1 hY).1
        unfold tenL endL
        rw [if_neg hn, if_neg e3, if_pos (by simp only [Nat.add_zero]; rw [e4]; omega)]
    · intro h
      unfold tenL endL at h
      rw [if_neg hn] at h
      by_cases hd : rowL 10 l < l.length ∧ bat l (rowL 10 l) = 46
      · rw [if_pos hd] at h
        by_cases h0 : rowL 10 l + rowL 10 (l.drop (rowL 10 l + 1)) = 0
        · rw [if_pos h0] at h; cases h
        · rw [if_neg h0] at h
          split at h
          · rename_i hc
            obtain ⟨A, B, Y, e, hD, hY, hl⟩ := S.dot_bwd l hd.1 hd.2 h0 hc.2.2
            exact .inl ⟨A, B, Y, e, row_no46 S.dot (hD.full S.hb).1, hD, hY⟩
          · cases h
      · rw [if_neg hd] at h
        split at h
        · rename_i hc
          simp only [Nat.add_zero, Nat.zero_add] at hc
          obtain ⟨A, Y, e, hA, hY, hl⟩ := S.no_bwd l hc.1 hc.2.2
          refine .inr ⟨A, Y, e, hA, hY.resolve_left ?_⟩
          intro e0; rw [e0] at hl; simp at hl; omega
        · cases h
  · unfold tenL endL
    rw [if_neg hn]
    repeat' split
    all_goals simp
def int10 (l : List UInt8) : Bool := decide (l = [48]) || (rowR 10 l && !decide (bat l 0 = 48)) || (decide (1 < l.length) && decide (bat l 0 = 48) && underR 8 l.tail)

theorem trim_us (r : List UInt8) : Lib.trimPrefix (95 :: r) [95] = r := by
  simp [Lib.trimPrefix, Lib.hasPrefix, List.isPrefixOf]
theorem trim_no (l : List UInt8) (h : ∀ r, l ≠ 95 :: r) : Lib.trimPrefix l [95] = l ∧ Lib.hasPrefix l [95] = false := by
  match l, h with
  | [], _ => simp [Lib.trimPrefix, Lib.hasPrefix, List.isPrefixOf]
  | c :: r, h =>
    have : c ≠ 95 := by intro e; exact h r (by rw [e])
    have h2 : (95 == c) = false := by simp; exact fun e => this e.symm
    simp [Lib.trimPrefix, Lib.hasPrefix, List.isPrefixOf, h2]
theorem under_us (b : Int) (hb : b ≤ 16) (r : List UInt8) : underR b (95 :: r) = rowR b r := by
  have h0 : rowR b (95 :: r) = false := by simp [rowR, dg_us b hb]
  unfold underR
  rw [h0]
  rw [Bool.eq_iff_iff]
  simp only [Bool.false_or, Bool.and_eq_true, decide_eq_true_eq, List.tail_cons, List.length_cons]
  constructor
  · exact fun h => h.2
  · intro h; have := rowR_pos b r h; exact ⟨⟨by omega, by simp [bat]⟩, h⟩
theorem under_no (b : Int) (l : List UInt8) (h : ∀ r, l ≠ 95 :: r) : underR b l = rowR b l := by
  unfold underR
  have : ¬ bat l 0 = 95 ∨ l = [] := by
    match l, h with
    | [], _ => exact .inr rfl
    | c :: r, h =>
      left; intro e; simp only [bat, List.getElem?_cons_zero, Option.getD_some, i95] at e; exact h r (by rw [e])
  rcases this with h | h
  · simp [h]
  · subst h; simp
theorem us_or (l : List UInt8) : (∃ r, l = 95 :: r) ∨ (∀ r, l ≠ 95 :: r) := by
  by_cases h : ∃ r, l = 95 :: r
  · exact .inl h
  · exact .inr fun r e => h ⟨r, e⟩
theorem whole_eq (b : Int) (hb : b ≤ 16) (l : List UInt8) : wholeL b l = if underR b l then 3 else 0 := by
  unfold wholeL
  rcases us_or l with ⟨r, rfl⟩ | h
  · rw [trim_us, under_us b hb]
    have := rowR_iff b hb r
    by_cases hr : rowR b r = true
    · rw [if_pos (this.1 hr), if_pos hr]
    · rw [if_neg (fun h => hr (this.2 h)), if_neg hr]
  · rw [(trim_no l h).1, under_no b l h]
    have := rowR_iff b hb l
    by_cases hr : rowR b l = true
    · rw [if_pos (this.1 hr), if_pos hr]
    · rw [if_neg (fun h => hr (this.2 h)), if_neg hr]
theorem val8 (c : UInt8) (h : dg 8 c = true) : dg 10 c = true := by
  simp only [dg, decide_eq_true_eq] at *; omega
theorem val2 (c : UInt8) (h : dg 2 c = true) : dg 10 c = true := by
  simp only [dg, decide_eq_true_eq] at *; omega
theorem tail_mono (a b : Int) (hab : ∀ c, dg a c = true → dg b c = true) (hb : b ≤ 16) : ∀ (n : Nat) (l : List UInt8), l.length ≤ n → tailL a l = l.length → tailL b l = l.length := by
  intro n
  induction n with
  | zero => intro l hl; cases l with | nil => simp [tailL] | cons => simp at hl
  | succ n ih =>
    intro l hl h
    match l, hl, h with
    | [], _, _ => rfl
    | u :: r, hl, h =>
      simp only [List.length_cons] at hl
      rw [tailL_cons] at h ⊢
      by_cases hu : dg a u = true
      · rw [if_pos hu] at h
        rw [if_pos (hab u hu), ih r (by omega) (by simp at h; omega)]; simp; omega
      · rw [if_neg hu] at h
        by_cases e : u = 95
        · subst e
          rw [if_neg (by rw [dg_us b hb]; simp)]
          simp only [beq_self_eq_true, if_true] at h ⊢
          match r, h with
          | [], h => simp at h
          | d :: r', h =>
            simp only [List.length_cons] at hl
            by_cases hd : dg a d = true
            · simp only [hd, if_true, List.length_cons] at h
              simp only [hab d hd, if_true, ih r' (by omega) (by omega), List.length_cons]; omega
            · simp [hd] at h
        · simp [e] at h
theorem row_mono (a b : Int) (hab : ∀ c, dg a c = true → dg b c = true) (ha : a ≤ 16) (hb : b ≤ 16) (l : List UInt8) (h : rowR a l = true) : rowR b l = true := by
  rw [rowR_iff a ha] at h
  rw [rowR_iff b hb]
  refine ⟨h.1, ?_⟩
  match l, h with
  | c :: r, h =>
    by_cases hc : dg a c = true
    · have h2 := h.2
      simp only [rowL, hc, if_true, List.length_cons] at h2
      simp only [rowL, hab c hc, if_true, List.length_cons, tail_mono a b hab hb r.length r (Nat.le_refl _) (by omega)]; omega
    · have h2 := h.2; simp [rowL, hc] at h2
theorem zero_under (t : List UInt8) (h : underR 8 t = true) : rowL 10 (48 :: t) = t.length + 1 := by
  have h48 : dg 10 48 = true := by decide
  have key : tailL 10 t = t.length := by
    rcases us_or t with ⟨r, rfl⟩ | hno
    · rw [under_us 8 (by omega)] at h
      have h10 := row_mono 8 10 val8 (by omega) (by omega) r h
      have := (rowR_iff 10 (by omega) r).1 h10
      match r, this with
      | d :: r', this =>
        have hd : dg 10 d = true := by
          apply Classical.byContradiction; intro hn; have h2 := this.2; simp [rowL, hn] at h2
        have h2 := this.2
        simp only [rowL, hd, if_true, List.length_cons] at h2
        rw [tail_us 10 d r' hd (by omega)]; simp [rowL, hd]; omega
    · rw [under_no 8 t hno] at h
      have h10 := row_mono 8 10 val8 (by omega) (by omega) t h
      have := (rowR_iff 10 (by omega) t).1 h10
      rw [tail_row 10 t ?_ (by omega)]
      · exact this.2
      · intro u d r' e eu; exfalso; exact hno (d :: r') (by rw [e, eu])
  simp only [rowL, h48, if_true, key]; omega
theorem ten_eq (l : List UInt8) : tenL l = if int10 l = true then 3 else if float10 l = true then 4 else 0 := by
  by_cases hn : rowL 10 l = l.length ∧ 0 < rowL 10 l
  · have hr : rowR 10 l = true := (rowR_iff 10 (by omega) l).2 ⟨List.length_pos_iff.1 (by omega), hn.1⟩
    have hmem := row_mem 10 l hn.1
    have hf : float10 l = false := by
      apply Classical.byContradiction; intro h
      have h : float10 l = true := by simpa using h
      rw [float10_iff] at h
      rcases h with ⟨A, B, Y, e, _⟩ | ⟨A, Y, e, _, hY⟩
      · have := hmem 46 (by rw [e]; simp)
        rcases this with h | h
        · revert h; decide
        · cases h
      · match Y, hY with
        | y :: Y', hY =>
          have h3 := SysE.st y Y' hY
          rcases hmem y (by rw [e]; simp) with h | h
          · rw [h3.1] at h; cases h
          · exact h3.2.1 h
    rw [hf]
    unfold tenL
    rw [if_pos hn]
    by_cases h48 : bat l 0 = 48
    · by_cases h1 : rowL 10 l = 1
      · have : l = [48] := by
          match l, hn, h48 with
          | [c], _, h48 => simp only [bat, List.getElem?_cons_zero, Option.getD_some, i48] at h48; rw [h48]
          | [], hn, _ => simp [rowL] at hn
          | _ :: _ :: _, hn, _ => rw [h1] at hn; simp at hn
        rw [if_pos (.inr h1), if_pos (by simp [int10, this])]
      · rw [if_neg (by simp [h48, h1]), whole_eq 8 (by omega)]
        have hne : l ≠ [48] := by intro e; rw [e] at h1; exact h1 (by decide)
        have : int10 l = underR 8 l.tail := by
          unfold int10
          rw [hr, h48]; simp [hne]; omega
        rw [this]; simp
    · rw [if_pos (.inl h48), if_pos (by simp [int10, hr, h48])]
  · obtain ⟨h1, h2⟩ := ten_float l hn
    have hi : int10 l = false := by
      unfold int10
      have a1 : l ≠ [48] := by intro e; rw [e] at hn; exact hn (by decide)
      have a2 : rowR 10 l = false := by
        apply Classical.byContradiction; intro h
        have h := (rowR_iff 10 (by omega) l).1 (by simpa using h)
        exact hn ⟨h.2, by rw [h.2]; exact List.length_pos_iff.2 h.1⟩
      have a3 : ¬ ((1 < l.length ∧ bat l 0 = 48) ∧ underR 8 l.tail = true) := by
        rintro ⟨⟨b1, b2⟩, b3⟩
        match l, b1, b2, b3 with
        | c :: t, b1, b2, b3 =>
          simp only [bat, List.getElem?_cons_zero, Option.getD_some, i48] at b2
          subst b2
          exact hn ⟨by rw [zero_under t b3]; simp, by rw [zero_under t b3]; omega⟩
      simp only [a1, a2, decide_false, Bool.false_and, Bool.or_false, Bool.false_or]
      rw [Bool.eq_false_iff]; simpa [Bool.and_eq_true] using a3
    rw [hi]
    simp only [Bool.false_eq_true, if_false]
    rcases h2 with h2 | h2
    · rw [if_pos (h1.2 h2), h2]
    · rw [if_neg (by rw [h1, h2]; decide), h2]
end Go.Proofs.Ytdebafbhphobcaa
