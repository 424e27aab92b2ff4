import Derived.Test.YtdebafbhphobcaaP2
namespace Go.Proofs.Ytdebafbhphobcaa
open Go.RowKit

theorem runF_eq (cont : Nat → Bool) (d : Nat) : ∀ (f to : Nat), to ≤ d → d < to + f → (∀ j, to ≤ j → j < d → cont j = true) → cont d = false → runF cont f to = d := by
  intro f
  induction f with
  | zero => intro to h1 h2; omega
  | succ f ih =>
    intro to h1 h2 h3 h4
    rcases Nat.eq_or_lt_of_le h1 with e | e
    · subst e; rw [runF, if_neg (by simp [h4])]
    · rw [runF, if_pos (h3 to (Nat.le_refl _) e)]
      exact ih (to + 1) (by omega) (by omega) (fun j h5 h6 => h3 j (by omega) h6) h4
theorem runF_all (cont : Nat → Bool) : ∀ (f to : Nat), (∀ j, to ≤ j → j < to + f → cont j = true) → runF cont f to = to + f := by
  intro f
  induction f with
  | zero => intro to _; rfl
  | succ f ih =>
    intro to h3
    rw [runF, if_pos (h3 to (Nat.le_refl _) (by omega)), ih (to + 1) (fun j h5 h6 => h3 j (by omega) (by omega))]; omega
theorem bat_app (A B : List UInt8) (x : UInt8) (j : Nat) (h : j < A.length) : bat (A ++ x :: B) j = (A[j].toNat : Int) := by
  unfold bat; rw [List.getElem?_append_left h, List.getElem?_eq_getElem h]; rfl
theorem dotI_app (A B : List UInt8) (h : (46 : UInt8) ∉ A) : dotI (A ++ 46 :: B) = A.length := by
  unfold dotI
  refine runF_eq _ _ _ _ (Nat.zero_le _) (by simp) (fun j _ hj => ?_) ?_
  · rw [bat_app _ _ _ _ hj]
    have : A[j] ≠ 46 := fun e => h (e ▸ List.getElem_mem hj)
    simp only [i46, this, decide_false, Bool.not_false]
  · simp [bat]
theorem dotI_no (l : List UInt8) (h : (46 : UInt8) ∉ l) : dotI l = l.length := by
  unfold dotI
  rw [runF_all]; · simp
  intro j _ hj
  simp only [Nat.sub_zero, Nat.zero_add] at hj
  have : l[j] ≠ 46 := fun e => h (e ▸ List.getElem_mem hj)
  have e : bat l j = (l[j].toNat : Int) := by unfold bat; rw [List.getElem?_eq_getElem hj]; rfl
  rw [e]; simp only [i46, this, decide_false, Bool.not_false]
theorem point_app (b : Int) (hex : Bool) (A B : List UInt8) (h : (46 : UInt8) ∉ A) : pointR b hex (A ++ 46 :: B) = partsR b hex A B := by
  unfold pointR; rw [dotI_app A B h]; simp [List.drop_append, List.drop_eq_nil_of_le]
theorem point_iff (b : Int) (hex : Bool) (l : List UInt8) : pointR b hex l = true ↔ ∃ A B, l = A ++ 46 :: B ∧ (46 : UInt8) ∉ A ∧ partsR b hex A B = true := by
  constructor
  · intro h
    by_cases hm : (46 : UInt8) ∈ l
    · obtain ⟨A, B, e, hA⟩ := List.eq_append_cons_of_mem hm
      exact ⟨A, B, e, hA, by rw [← point_app b hex A B hA, ← e]; exact h⟩
    · exfalso; unfold pointR at h; rw [dotI_no l hm] at h; simp at h
  · rintro ⟨A, B, rfl, hA, h⟩; rw [point_app b hex A B hA]; exact h
theorem anyF_iff (f : Nat → Bool) (n : Nat) : anyF f n 0 = true ↔ ∃ i, i ≤ n ∧ f i = true := by
  unfold anyF
  rw [List.any_eq_true]
  constructor
  · rintro ⟨i, h1, h2⟩; exact ⟨i, by have := List.mem_range'_1.1 h1; omega, h2⟩
  · rintro ⟨i, h1, h2⟩; exact ⟨i, List.mem_range'_1.2 (by omega), h2⟩
theorem any_split (l : List UInt8) (p q : List UInt8 → Bool) : anyF (fun i => p (l.drop i) && q (l.take i)) l.length 0 = true ↔ ∃ X Y, l = X ++ Y ∧ p Y = true ∧ q X = true := by
  rw [anyF_iff]
  constructor
  · rintro ⟨i, _, h⟩; simp only [Bool.and_eq_true] at h; exact ⟨l.take i, l.drop i, (List.take_append_drop i l).symm, h.1, h.2⟩
  · rintro ⟨X, Y, rfl, h1, h2⟩; exact ⟨X.length, by simp, by simp [h1, h2]⟩

/-- a base and the letters of its powers -/
structure NumSys (b : Int) (ls : List UInt8) (pw : List UInt8 → Bool) : Prop where
  hb : b ≤ 16
  pwf : ∀ Y, pw Y = true ↔ Y ≠ [] ∧ powerL ls Y = Y.length
  st : ∀ y Y, pw (y :: Y) = true → dg b y = false ∧ y ≠ 95 ∧ y ≠ 46
  dot : dg b 46 = false
def DD (b : Int) (A B : List UInt8) : Prop := (rowR b A = true ∧ (B = [] ∨ rowR b B = true)) ∨ (A = [] ∧ rowR b B = true)
theorem DD.full {b : Int} (hb : b ≤ 16) {A B : List UInt8} (h : DD b A B) : rowL b A = A.length ∧ rowL b B = B.length ∧ A.length + B.length ≠ 0 := by
  rcases h with ⟨h1, h2⟩ | ⟨h1, h2⟩
  · exact ⟨((rowR_iff b hb A).1 h1).2, (row_full b hb B).2 h2, by have := rowR_pos b A h1; omega⟩
  · subst h1; exact ⟨rfl, ((rowR_iff b hb B).1 h2).2, by have := rowR_pos b B h2; omega⟩
theorem row_no46 {b : Int} (hd : dg b 46 = false) {A : List UInt8} (h : rowL b A = A.length) : (46 : UInt8) ∉ A := by
  intro hm; rcases row_mem b A h 46 hm with h | h
  · rw [hd] at h; cases h
  · cases h
section
variable {b : Int} {ls : List UInt8} {pw : List UInt8 → Bool}
theorem NumSys.pow (S : NumSys b ls pw) {Y : List UInt8} (h : Y = [] ∨ pw Y = true) : powerL ls Y = Y.length := by
  rcases h with h | h
  · subst h; rfl
  · exact ((S.pwf Y).1 h).2
theorem NumSys.rowTo (S : NumSys b ls pw) {A Y : List UInt8} (hA : rowL b A = A.length) (h : Y = [] ∨ pw Y = true) : rowL b (A ++ Y) = A.length := by
  match Y, h with
  | [], _ => simpa using hA
  | y :: Y', h =>
    have := S.st y Y' (h.resolve_left (by simp))
    exact row_stop b S.hb y Y' A this.1 this.2.1 hA
theorem NumSys.dot_fwd (S : NumSys b ls pw) {A B Y : List UInt8} (hD : DD b A B) (hY : Y = [] ∨ pw Y = true) (l : List UInt8) (hl : l = A ++ 46 :: (B ++ Y)) :
    rowL b l = A.length ∧ rowL b l < l.length ∧ bat l (rowL b l) = 46 ∧ rowL b (l.drop (rowL b l + 1)) = B.length ∧ powerL ls (l.drop (rowL b l + (rowL b (l.drop (rowL b l + 1)) + 1))) = Y.length ∧ l.length = A.length + B.length + 1 + Y.length := by
  obtain ⟨hA, hB, _⟩ := hD.full S.hb
  have e1 : rowL b l = A.length := by rw [hl]; exact row_stop b S.hb 46 _ A S.dot (by decide) hA
  have e2 : l.drop (A.length + 1) = B ++ Y := by rw [hl, List.drop_append, List.drop_eq_nil_of_le (by omega)]; simp
  have e3 : rowL b (B ++ Y) = B.length := S.rowTo hB hY
  have e4 : l.drop (A.length + (B.length + 1)) = Y := by
    rw [show A.length + (B.length + 1) = (A.length + 1) + B.length from by omega, ← List.drop_drop, e2]; simp
  refine ⟨e1, ?_, ?_, ?_, ?_, ?_⟩
  · rw [e1, hl]; simp
  · rw [e1, hl]; simp [bat]
  · rw [e1, e2, e3]
  · rw [e1, e2, e3, e4]; exact S.pow hY
  · rw [hl]; simp; omega
theorem NumSys.dot_bwd (S : NumSys b ls pw) (l : List UInt8) (h1 : rowL b l < l.length) (h2 : bat l (rowL b l) = 46) (h3 : rowL b l + rowL b (l.drop (rowL b l + 1)) ≠ 0)
    (h4 : rowL b l + (rowL b (l.drop (rowL b l + 1)) + 1) + powerL ls (l.drop (rowL b l + (rowL b (l.drop (rowL b l + 1)) + 1))) = l.length) :
    ∃ A B Y, l = A ++ 46 :: (B ++ Y) ∧ DD b A B ∧ (Y = [] ∨ pw Y = true) ∧ Y.length = powerL ls (l.drop (rowL b l + (rowL b (l.drop (rowL b l + 1)) + 1))) := by
  generalize hn : rowL b l = n at *
  generalize hm : rowL b (l.drop (n + 1)) = m at *
  have hA : rowL b (l.take n) = (l.take n).length := by
    have := row_take b l; rw [hn] at this; rw [this, List.length_take]; omega
  have hB : rowL b ((l.drop (n + 1)).take m) = ((l.drop (n + 1)).take m).length := by
    have h5 := row_take b (l.drop (n + 1)); rw [hm] at h5
    have h6 := row_le b (l.drop (n + 1)); rw [hm] at h6
    rw [h5, List.length_take]; omega
  have e46 : l[n] = 46 := by
    have : bat l n = (l[n].toNat : Int) := by unfold bat; rw [List.getElem?_eq_getElem h1]; rfl
    rw [this] at h2; exact (i46 _).1 h2
  have hmle : m ≤ (l.drop (n + 1)).length := by have := row_le b (l.drop (n + 1)); omega
  refine ⟨l.take n, (l.drop (n + 1)).take m, l.drop (n + (m + 1)), ?_, ?_, ?_, ?_⟩
  · have : l.drop (n + (m + 1)) = (l.drop (n + 1)).drop m := by rw [List.drop_drop]; congr 1; omega
    rw [this, List.take_append_drop, ← e46, ← List.drop_eq_getElem_cons h1, List.take_append_drop]
  · have l1 : (l.take n).length = n := by rw [List.length_take]; omega
    have l2 : ((l.drop (n + 1)).take m).length = m := by rw [List.length_take]; omega
    rcases (row_full b S.hb _).1 hA with a | a
    · have n0 : n = 0 := by rw [a] at l1; simpa using l1.symm
      right; refine ⟨a, ?_⟩
      rcases (row_full b S.hb _).1 hB with b' | b'
      · rw [b'] at l2; simp at l2; omega
      · exact b'
    · left; exact ⟨a, (row_full b S.hb _).1 hB⟩
  · have hlen : (l.drop (n + (m + 1))).length = l.length - (n + (m + 1)) := List.length_drop ..
    by_cases hY : l.drop (n + (m + 1)) = []
    · exact .inl hY
    · exact .inr ((S.pwf _).2 ⟨hY, by omega⟩)
  · rw [List.length_drop]; omega
theorem NumSys.no_fwd (S : NumSys b ls pw) {A Y : List UInt8} (hA : rowR b A = true) (hY : Y = [] ∨ pw Y = true) (l : List UInt8) (hl : l = A ++ Y) :
    rowL b l = A.length ∧ 0 < A.length ∧ ¬ (rowL b l < l.length ∧ bat l (rowL b l) = 46) ∧ powerL ls (l.drop (rowL b l)) = Y.length ∧ l.length = A.length + Y.length := by
  have hA2 := ((rowR_iff b S.hb A).1 hA).2
  have e1 : rowL b l = A.length := by rw [hl]; exact S.rowTo hA2 hY
  refine ⟨e1, rowR_pos b A hA, ?_, ?_, ?_⟩
  · rw [e1]; rintro ⟨h1, h2⟩
    match Y, hY with
    | [], _ => rw [hl] at h1; simp at h1
    | y :: Y', hY =>
      have := S.st y Y' (hY.resolve_left (by simp))
      rw [hl] at h2; simp only [bat, List.getElem?_append_right (Nat.le_refl _), Nat.sub_self, List.getElem?_cons_zero, Option.getD_some] at h2
      exact this.2.2 ((i46 _).1 h2)
  · rw [e1, hl]; simp; exact S.pow hY
  · rw [hl]; simp
theorem NumSys.no_bwd (S : NumSys b ls pw) (l : List UInt8) (h1 : 0 < rowL b l) (h4 : rowL b l + powerL ls (l.drop (rowL b l)) = l.length) :
    ∃ A Y, l = A ++ Y ∧ rowR b A = true ∧ (Y = [] ∨ pw Y = true) ∧ Y.length = powerL ls (l.drop (rowL b l)) := by
  generalize hn : rowL b l = n at *
  have hle := row_le b l
  have hA : rowL b (l.take n) = (l.take n).length := by
    have := row_take b l; rw [hn] at this; rw [this, List.length_take]; omega
  refine ⟨l.take n, l.drop n, (List.take_append_drop n l).symm, ?_, ?_, ?_⟩
  · rcases (row_full b S.hb _).1 hA with a | a
    · have l1 : (l.take n).length = n := by rw [List.length_take]; omega
      rw [a] at l1; simp at l1; omega
    · exact a
  · by_cases hY : l.drop n = []
    · exact .inl hY
    · exact .inr ((S.pwf _).2 ⟨hY, by rw [List.length_drop]; omega⟩)
  · rw [List.length_drop]; omega
end
theorem SysE : NumSys 10 [101, 69] (powerR 101 69) where
  hb := by omega
  pwf := powE
  st := by
    intro y Y h
    have : (y.toNat : Int) = 101 ∨ (y.toNat : Int) = 69 := by
      simp only [powerR, Bool.and_eq_true, Bool.or_eq_true, decide_eq_true_eq] at h; simpa [bat] using h.1.2
    rcases this with h | h
    · rw [(u8n y 101 (by decide)).1 h]; decide
    · rw [(u8n y 69 (by decide)).1 h]; decide
  dot := by decide
theorem SysP : NumSys 16 [112, 80] (powerR 112 80) where
  hb := by omega
  pwf := powP
  st := by
    intro y Y h
    have : (y.toNat : Int) = 112 ∨ (y.toNat : Int) = 80 := by
      simp only [powerR, Bool.and_eq_true, Bool.or_eq_true, decide_eq_true_eq] at h; simpa [bat] using h.1.2
    rcases this with h | h
    · rw [(u8n y 112 (by decide)).1 h]; decide
    · rw [(u8n y 80 (by decide)).1 h]; decide
  dot := by decide
end Go.Proofs.Ytdebafbhphobcaa
