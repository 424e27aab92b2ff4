import Derived.Test.YtdebafbhphobcaaP1
namespace Go.Proofs.Ytdebafbhphobcaa
open Go.RowKit

theorem tailL_cons (b : Int) (u : UInt8) (r : List UInt8) : tailL b (u :: r) = if dg b u then 1 + tailL b r else if u == 95 then (match r with | d :: r' => if dg b d then 2 + tailL b r' else 0 | [] => 0) else 0 := by
  cases r <;> rfl
theorem tail_stop (b : Int) (hb : b ≤ 16) (c : UInt8) (r : List UInt8) (hc : dg b c = false) (h95 : c ≠ 95) : ∀ (n : Nat) (A : List UInt8), A.length ≤ n → tailL b A = A.length → tailL b (A ++ c :: r) = A.length := by
  intro n
  induction n with
  | zero => intro A hA _; cases A with | nil => simp [tailL, tailL_cons, hc, h95] | cons => simp at hA
  | succ n ih =>
    intro A hA h
    match A, hA, h with
    | [], _, _ => simp [tailL, tailL_cons, hc, h95]
    | [u], _, h =>
      by_cases hu : dg b u = true
      · simp [tailL_cons, hu, hc, h95]
      · by_cases e : u = 95
        · subst e; simp [tailL_cons, hu] at h
        · simp [tailL_cons, hu, e] at h
    | u :: d :: A', hA, h =>
      simp only [List.length_cons] at hA
      by_cases hu : dg b u = true
      · have h2 : tailL b (d :: A') = (d :: A').length := by rw [tailL_cons, if_pos hu] at h; simp at h ⊢; omega
        have := ih (d :: A') (by simp; omega) h2
        simp only [List.cons_append] at this ⊢
        rw [tailL_cons, if_pos hu, this]; simp; omega
      · by_cases e : u = 95
        · subst e
          by_cases hd : dg b d = true
          · have h2 : tailL b A' = A'.length := by rw [tailL_cons, if_neg hu, if_pos (by rfl)] at h; simp [hd] at h; omega
            have := ih A' (by omega) h2
            simp only [List.cons_append]
            rw [tailL_cons, if_neg hu, if_pos (by rfl)]; simp only [hd, if_true, this]; simp; omega
          · rw [tailL_cons, if_neg hu, if_pos (by rfl)] at h; simp [hd] at h
        · simp [tailL, hu, e] at h
theorem row_stop (b : Int) (hb : b ≤ 16) (c : UInt8) (r A : List UInt8) (hc : dg b c = false) (h95 : c ≠ 95) (h : rowL b A = A.length) : rowL b (A ++ c :: r) = A.length := by
  match A, h with
  | [], _ => simp [rowL, hc]
  | a :: A', h =>
    by_cases ha : dg b a = true
    · have h2 : tailL b A' = A'.length := by simp [rowL, ha] at h; omega
      have := tail_stop b hb c r hc h95 A'.length A' (Nat.le_refl _) h2
      simp only [List.cons_append, rowL, ha, if_true, this]; simp; omega
    · simp [rowL, ha] at h
theorem tail_take (b : Int) : ∀ (n : Nat) (l : List UInt8), l.length ≤ n → tailL b (l.take (tailL b l)) = tailL b l := by
  intro n
  induction n with
  | zero => intro l hl; cases l with | nil => simp [tailL] | cons => simp at hl
  | succ n ih =>
    intro l hl
    match l, hl with
    | [], _ => simp [tailL]
    | [u], _ =>
      by_cases hu : dg b u = true
      · simp [tailL, hu]
      · by_cases e : u = 95
        · subst e; simp [tailL_cons, tailL, hu]
        · simp [tailL_cons, tailL, hu, e]
    | u :: d :: l', hl =>
      simp only [List.length_cons] at hl
      by_cases hu : dg b u = true
      · have := ih (d :: l') (by simp; omega)
        have e : tailL b (u :: d :: l') = tailL b (d :: l') + 1 := by rw [tailL_cons, if_pos hu]; omega
        rw [e, List.take_succ_cons, tailL_cons, if_pos hu, this]; omega
      · by_cases e : u = 95
        · subst e
          by_cases hd : dg b d = true
          · have := ih l' (by omega)
            have e : tailL b (95 :: d :: l') = tailL b l' + 1 + 1 := by rw [tailL_cons, if_neg hu, if_pos (by rfl)]; simp [hd]; omega
            rw [e, List.take_succ_cons, List.take_succ_cons, tailL_cons, if_neg hu, if_pos (by rfl)]; simp only [hd, if_true, this]; omega
          · simp [tailL, hu, hd]
        · simp [tailL, hu, e]
theorem row_take (b : Int) (l : List UInt8) : rowL b (l.take (rowL b l)) = rowL b l := by
  match l with
  | [] => simp [rowL]
  | c :: r =>
    by_cases hc : dg b c = true
    · have e : rowL b (c :: r) = tailL b r + 1 := by simp [rowL, hc]; omega
      rw [e, List.take_succ_cons, rowL, if_pos hc, tail_take b r.length r (Nat.le_refl _)]; omega
    · simp [rowL, hc]
theorem tail_mem (b : Int) : ∀ (n : Nat) (l : List UInt8), l.length ≤ n → tailL b l = l.length → ∀ x ∈ l, dg b x = true ∨ x = 95 := by
  intro n
  induction n with
  | zero => intro l hl; cases l with | nil => simp | cons => simp at hl
  | succ n ih =>
    intro l hl h
    match l, hl, h with
    | [], _, _ => simp
    | [u], _, h =>
      by_cases hu : dg b u = true
      · simp [hu]
      · by_cases e : u = 95
        · subst e; simp [tailL_cons, hu] at h
        · simp [tailL_cons, hu, e] at h
    | u :: d :: l', hl, h =>
      simp only [List.length_cons] at hl
      by_cases hu : dg b u = true
      · have h2 : tailL b (d :: l') = (d :: l').length := by rw [tailL_cons, if_pos hu] at h; simp at h ⊢; omega
        have := ih (d :: l') (by simp; omega) h2
        intro x hx; rcases List.mem_cons.1 hx with rfl | hx
        · exact .inl hu
        · exact this x hx
      · by_cases e : u = 95
        · subst e
          by_cases hd : dg b d = true
          · have h2 : tailL b l' = l'.length := by rw [tailL_cons, if_neg hu, if_pos (by rfl)] at h; simp [hd] at h; omega
            have := ih l' (by omega) h2
            intro x hx; rcases List.mem_cons.1 hx with rfl | hx
            · exact .inr rfl
            · rcases List.mem_cons.1 hx with rfl | hx
              · exact .inl hd
              · exact this x hx
          · rw [tailL_cons, if_neg hu, if_pos (by rfl)] at h; simp [hd] at h
        · simp [tailL, hu, e] at h
theorem row_mem (b : Int) (l : List UInt8) (h : rowL b l = l.length) : ∀ x ∈ l, dg b x = true ∨ x = 95 := by
  match l, h with
  | [], _ => simp
  | c :: r, h =>
    by_cases hc : dg b c = true
    · have h2 : tailL b r = r.length := by simp [rowL, hc] at h; omega
      intro x hx; rcases List.mem_cons.1 hx with rfl | hx
      · exact .inl hc
      · exact tail_mem b r.length r (Nat.le_refl _) h2 x hx
    · simp [rowL, hc] at h

theorem row_full (b : Int) (hb : b ≤ 16) (l : List UInt8) : rowL b l = l.length ↔ (l = [] ∨ rowR b l = true) := by
  rw [rowR_iff b hb]
  constructor
  · intro h; by_cases e : l = []
    · exact .inl e
    · exact .inr ⟨e, h⟩
  · rintro (h | h)
    · subst h; rfl
    · exact h.2
theorem signL_eq (c : UInt8) (r : List UInt8) : signL r = if bat (c :: r) 1 = 43 ∨ bat (c :: r) 1 = 45 then 2 else 1 := by
  cases r with
  | nil => simp [signL, bat]
  | cons d r => simp [signL, bat]
theorem power_iff (ls : List UInt8) (a b : Nat) (ha : a < 256) (hb : b < 256) (hls : ∀ c : UInt8, Lib.indexByte ls c < 0 ↔ ¬ ((c.toNat : Int) = a ∨ (c.toNat : Int) = b)) (l : List UInt8) :
    powerR a b l = true ↔ l ≠ [] ∧ powerL ls l = l.length := by
  match l with
  | [] => simp [powerR]
  | c :: r =>
    have h1 := hls c
    have hle := row_le 10 ((c :: r).drop (signL r))
    have hfull := row_full 10 (by omega) ((c :: r).drop (signL r))
    simp only [List.length_drop, List.length_cons] at hle hfull
    have hs := signL_eq c r
    have hs2 : 1 ≤ signL r := by rw [hs]; split <;> omega
    unfold powerR
    simp only [powerL, ne_eq, reduceCtorEq, not_false_eq_true, true_and, List.length_cons]
    have e0 : bat (c :: r) 0 = (c.toNat : Int) := by simp [bat]
    rw [e0]
    by_cases hi : Lib.indexByte ls c < 0
    · have := h1.1 hi
      have hn : ¬ ((c.toNat : Int) = a) ∧ ¬ ((c.toNat : Int) = b) := by omega
      simp [hi, hn.1, hn.2]
    · have hn : (c.toNat : Int) = a ∨ (c.toNat : Int) = b := by
        apply Classical.byContradiction; intro h; exact hi (h1.2 h)
      have hn' : (decide ((c.toNat : Int) = a) || decide ((c.toNat : Int) = b)) = true := by simpa using hn
      rw [if_neg hi, hn']
      have key : (if bat (c :: r) 1 = 43 ∨ bat (c :: r) 1 = 45 then rowR 10 ((c :: r).drop 2) else rowR 10 (c :: r).tail) = rowR 10 ((c :: r).drop (signL r)) := by
        rw [hs]; split <;> simp
      rw [key]
      simp only [Bool.and_true, Bool.and_eq_true, decide_eq_true_eq]
      have hR := rowR_iff 10 (by omega) ((c :: r).drop (signL r))
      simp only [List.length_drop, List.length_cons, ne_eq, List.drop_eq_nil_iff] at hR
      rw [hR]
      constructor
      · rintro ⟨h2, h3, h4⟩
        rw [if_pos (by omega)]; omega
      · intro h
        split at h <;> omega
theorem ixE (c : UInt8) : Lib.indexByte [101, 69] c < 0 ↔ ¬ ((c.toNat : Int) = (101 : Nat) ∨ (c.toNat : Int) = (69 : Nat)) := by
  have := (show ∀ c : Fin 256, (decide (Lib.indexByte [101, 69] (UInt8.ofNat c.val) < 0)) = decide (¬ (((UInt8.ofNat c.val).toNat : Int) = (101 : Nat) ∨ ((UInt8.ofNat c.val).toNat : Int) = (69 : Nat))) from by decide +kernel) ⟨c.toNat, c.toNat_lt⟩
  simp only [UInt8.ofNat_toNat, decide_eq_decide] at this
  exact this
theorem ixP (c : UInt8) : Lib.indexByte [112, 80] c < 0 ↔ ¬ ((c.toNat : Int) = (112 : Nat) ∨ (c.toNat : Int) = (80 : Nat)) := by
  have := (show ∀ c : Fin 256, (decide (Lib.indexByte [112, 80] (UInt8.ofNat c.val) < 0)) = decide (¬ (((UInt8.ofNat c.val).toNat : Int) = (112 : Nat) ∨ ((UInt8.ofNat c.val).toNat : Int) = (80 : Nat))) from by decide +kernel) ⟨c.toNat, c.toNat_lt⟩
  simp only [UInt8.ofNat_toNat, decide_eq_decide] at this
  exact this
theorem powE (l : List UInt8) : powerR 101 69 l = true ↔ l ≠ [] ∧ powerL [101, 69] l = l.length := power_iff [101, 69] 101 69 (by decide) (by decide) ixE l
theorem powP (l : List UInt8) : powerR 112 80 l = true ↔ l ≠ [] ∧ powerL [112, 80] l = l.length := power_iff [112, 80] 112 80 (by decide) (by decide) ixP l
end Go.Proofs.Ytdebafbhphobcaa
