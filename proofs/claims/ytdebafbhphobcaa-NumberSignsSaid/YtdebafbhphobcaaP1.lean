import Derived.Test.YtdebafbhphobcaaX3
namespace Go.Proofs.Ytdebafbhphobcaa
open Go.RowKit

theorem u8n (x : UInt8) (n : Nat) (h : n < 256) : ((x.toNat : Int) = (n : Int)) ↔ x = UInt8.ofNat n := by
  constructor
  · intro e; apply UInt8.toNat_inj.1; rw [UInt8.toNat_ofNat']; have : x.toNat = n := by omega
    rw [this, Nat.mod_eq_of_lt h]
  · intro e; rw [e, UInt8.toNat_ofNat', Nat.mod_eq_of_lt h]
theorem i48 (x : UInt8) : ((x.toNat : Int) = 48) ↔ x = 48 := u8n x 48 (by decide)
theorem i95 (x : UInt8) : ((x.toNat : Int) = 95) ↔ x = 95 := u8n x 95 (by decide)
theorem i46 (x : UInt8) : ((x.toNat : Int) = 46) ↔ x = 46 := u8n x 46 (by decide)
theorem i43 (x : UInt8) : ((x.toNat : Int) = 43) ↔ x = 43 := u8n x 43 (by decide)
theorem i45 (x : UInt8) : ((x.toNat : Int) = 45) ↔ x = 45 := u8n x 45 (by decide)

/-- behind a byte p: each a digit, or an underscore behind none -/
def chk (b : Int) (p : UInt8) : List UInt8 → Bool
  | [] => true
  | u :: r => ((u == 95 && p != 95) || dg b u) && chk b u r

theorem allR_chk (b : Int) (r : List UInt8) : ∀ (pre : List UInt8) (p : UInt8), allR b (pre ++ p :: r) (pre.length + 1) = chk b p r := by
  induction r with
  | nil => intro pre p; rw [allR_end _ _ _ (by simp)]; rfl
  | cons u r ih =>
    intro pre p
    rw [allR_step _ _ _ (by simp)]
    have h1 := ih (pre ++ [p]) u
    simp only [List.append_assoc, List.cons_append, List.nil_append, List.length_append, List.length_cons, List.length_nil, Nat.zero_add] at h1
    rw [h1, chk]
    congr 1
    unfold okR bat
    have e1 : (pre ++ p :: u :: r)[pre.length + 1]?.getD 0 = u := by simp
    have e2 : (pre ++ p :: u :: r)[pre.length + 1 - 1]?.getD 0 = p := by simp
    rw [e1, e2]
    simp only [i95]
    rw [Bool.eq_iff_iff]; simp

theorem tail_chk (b : Int) (hb : b ≤ 16) : ∀ (n : Nat) (r : List UInt8) (p : UInt8), r.length ≤ n → dg b p = true → p ≠ 95 →
    (tailL b r = r.length ↔ (chk b p r = true ∧ dg b ((p :: r).getLast (by simp)) = true)) := by
  intro n
  induction n with
  | zero => intro r p hr hp _; cases r with | nil => simp [tailL, chk, hp] | cons => simp at hr
  | succ n ih =>
    intro r p hr hp hp95
    have hus := dg_us b hb
    match r, hr with
    | [], _ => simp [tailL, chk, hp]
    | [u], _ =>
      by_cases hu : dg b u = true
      · simp [tailL, chk, hu]
      · by_cases h95 : u = 95
        · subst h95; simp [tailL, chk, hus]
        · simp [tailL, chk, hu, h95]
    | u :: d :: r', hr =>
      by_cases hu : dg b u = true
      · have h95 : u ≠ 95 := by intro e; rw [e, hus] at hu; cases hu
        have := ih (d :: r') u (by simp at hr ⊢; omega) hu h95
        rw [tailL, if_pos hu, chk, hu]
        simp only [Bool.or_true, Bool.true_and, List.length_cons, List.getLast_cons_cons] at this ⊢
        rw [← this]; omega
      · by_cases h95 : u = 95
        · subst h95
          by_cases hd : dg b d = true
          · have hd95 : d ≠ 95 := by intro e; rw [e, hus] at hd; cases hd
            have := ih r' d (by simp at hr ⊢; omega) hd hd95
            rw [tailL, if_neg hu, if_pos (by rfl)]
            simp only [hd, if_true, chk, hp95, Bool.and_eq_true, bne_iff_ne, ne_eq, not_false_eq_true, beq_self_eq_true, Bool.true_and, Bool.or_true, Bool.true_or, List.length_cons, List.getLast_cons_cons, true_and] at this ⊢
            have hpp : (p != 95 || dg b 95) = true := by simp [hp95]
            simp only [hpp, true_and, ← this]; omega
          · simp [tailL, chk, hus, hd, hp95]
        · simp [tailL, chk, hu, h95]
theorem rowR_iff (b : Int) (hb : b ≤ 16) (l : List UInt8) : rowR b l = true ↔ l ≠ [] ∧ rowL b l = l.length := by
  match l with
  | [] => simp [rowR]
  | c :: r =>
    have hlast : (c :: r)[(c :: r).length - 1]?.getD 0 = (c :: r).getLast (by simp) := by
      rw [List.getLast_eq_getElem, List.getElem?_eq_getElem (by simp)]; rfl
    unfold rowR
    rw [hlast]
    by_cases hc : dg b c = true
    · have h95 : c ≠ 95 := by intro e; rw [e, dg_us b hb] at hc; cases hc
      have h0 := allR_chk b r [] c
      simp only [List.nil_append, List.length_nil, Nat.zero_add] at h0
      rw [allR_step _ _ _ (by simp), h0]
      have hok : okR b (c :: r) 0 = true := by simp [okR, hc]
      have := tail_chk b hb r.length r c (Nat.le_refl _) hc h95
      simp only [hok, List.getElem?_cons_zero, Option.getD_some, hc, ne_eq, reduceCtorEq, not_false_eq_true, decide_true, Bool.true_and, Bool.and_eq_true, rowL, if_true, List.length_cons, true_and]
      constructor
      · intro h; have := this.2 ⟨h.2, h.1⟩; omega
      · intro h; have := this.1 (by omega); exact ⟨this.2, this.1⟩
    · simp [rowL, hc]
end Go.Proofs.Ytdebafbhphobcaa
