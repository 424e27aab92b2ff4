import Derived.Test.YtdebafbhphobcaaP7
namespace Go.Proofs.Ytdebafbhphobcaa
open Go.RowKit

def preB (hex : Bool) (p : UInt8) : Bool := (!hex && decide ((p.toNat : Int) = 101 ∨ (p.toNat : Int) = 69)) || (hex && decide ((p.toNat : Int) = 112 ∨ (p.toNat : Int) = 80))
def sgB (c : UInt8) : Bool := decide ((c.toNat : Int) = 43 ∨ (c.toNat : Int) = 45)
/-- each byte goes on in a run -/
def good (hex : Bool) (p : UInt8) : List UInt8 → Bool
  | [] => true
  | c :: r => (alR (c.toNat : Int) || (sgB c && preB hex p)) && good hex c r
def lastD (p : UInt8) : List UInt8 → UInt8
  | [] => p
  | c :: r => lastD c r
theorem good_app (hex : Bool) (A B : List UInt8) : ∀ p, good hex p (A ++ B) = (good hex p A && good hex (lastD p A) B) := by
  induction A with
  | nil => intro p; simp [good, lastD]
  | cons a A ih => intro p; simp only [List.cons_append, good, lastD, ih, Bool.and_assoc]
theorem lastD_app (A B : List UInt8) : ∀ p, lastD p (A ++ B) = lastD (lastD p A) B := by
  induction A with
  | nil => intro p; rfl
  | cons a A ih => intro p; simp only [List.cons_append, lastD, ih]
theorem good_al (hex : Bool) (A : List UInt8) (h : ∀ x ∈ A, alR (x.toNat : Int) = true) : ∀ p, good hex p A = true := by
  induction A with
  | nil => intro p; rfl
  | cons a A ih => intro p; simp only [good, h a (by simp), Bool.true_or, Bool.true_and, ih (fun x hx => h x (by simp [hx]))]
theorem al_dg (b : Int) (hb : b ≤ 16) (x : UInt8) (h : dg b x = true ∨ x = 95) : alR (x.toNat : Int) = true := by
  rcases h with h | rfl
  · have := x.toNat_lt
    unfold dg val at h; rw [decide_eq_true_eq] at h
    simp only [alR, decide_eq_true_eq]
    omega
  · decide
theorem good_get (hex : Bool) : ∀ (m : List UInt8) (p : UInt8), good hex p m = true → ∀ i (h : i < m.length), alR (m[i].toNat : Int) = true ∨ (sgB m[i] = true ∧ preB hex (if i = 0 then p else m[i - 1]?.getD 0) = true) := by
  intro m
  induction m with
  | nil => intro p _ i h; simp at h
  | cons c r ih =>
    intro p hg i h
    simp only [good, Bool.and_eq_true, Bool.or_eq_true] at hg
    match i, h with
    | 0, _ => simpa using hg.1
    | i + 1, h =>
      have := ih c hg.2 i (by simpa using h)
      simp only [List.getElem_cons_succ, Nat.add_eq_zero_iff, Nat.succ_ne_self, and_false, if_false, Nat.add_sub_cancel]
      rcases this with h1 | ⟨h1, h2⟩
      · exact .inl h1
      · refine .inr ⟨h1, ?_⟩
        match i, h2 with
        | 0, h2 => simpa using h2
        | j + 1, h2 => simpa using h2
theorem lastD_get (m : List UInt8) : ∀ (p : UInt8), m ≠ [] → lastD p m = m[m.length - 1]?.getD 0 := by
  induction m with
  | nil => intro p h; exact absurd rfl h
  | cons c r ih =>
    intro p _
    match r with
    | [] => simp [lastD]
    | d :: r' => rw [lastD, ih c (by simp)]; simp
theorem lastD_mem (m : List UInt8) : ∀ (p : UInt8), m ≠ [] → lastD p m ∈ m := by
  induction m with
  | nil => intro p h; exact absurd rfl h
  | cons c r ih =>
    intro p _
    match r with
    | [] => simp [lastD]
    | d :: r' => rw [lastD]; exact List.mem_cons_of_mem _ (ih c (by simp))
/-- the beginning of a run -/
def begD : List UInt8 → Bool
  | [] => false
  | c :: r => dg 10 c || (c == 46 && (match r with | [] => false | d :: _ => dg 10 d))
structure Fit (hex : Bool) (m : List UInt8) : Prop where
  ne : m ≠ []
  gd : good hex 0 m = true
  la : preB hex (lastD 0 m) = false
  be : begD m = true
theorem pre_dg (hex : Bool) (x : UInt8) (h : dg 10 x = true) : preB hex x = false := by
  have := x.toNat_lt
  unfold dg val at h; rw [decide_eq_true_eq] at h
  have h1 : ¬ ((x.toNat : Int) = 101 ∨ (x.toNat : Int) = 69) := by omega
  have h2 : ¬ ((x.toNat : Int) = 112 ∨ (x.toNat : Int) = 80) := by omega
  simp [preB, h1, h2]
theorem pre_dg16 (x : UInt8) (h : dg 16 x = true) : preB true x = false := by
  have := x.toNat_lt
  unfold dg val at h; rw [decide_eq_true_eq] at h
  have h2 : ¬ ((x.toNat : Int) = 112 ∨ (x.toNat : Int) = 80) := by omega
  simp [preB, h2]
theorem row_lastD (b : Int) (l : List UInt8) (h : rowR b l = true) (p : UInt8) : dg b (lastD p l) = true := by
  have hne : l ≠ [] := by rintro rfl; simp [rowR] at h
  rw [lastD_get l p hne]
  unfold rowR at h; simp only [Bool.and_eq_true] at h; exact h.1.2
theorem row_al (b : Int) (hb : b ≤ 16) (l : List UInt8) (h : rowR b l = true) : ∀ x ∈ l, alR (x.toNat : Int) = true := fun x hx => al_dg b hb x (row_all b hb l h x hx)
theorem under_al (b : Int) (hb : b ≤ 16) (l : List UInt8) (h : underR b l = true) : ∀ x ∈ l, alR (x.toNat : Int) = true := fun x hx => al_dg b hb x (under_all b hb l h x hx)
theorem under_lastD (b : Int) (hb : b ≤ 16) (l : List UInt8) (h : underR b l = true) (p : UInt8) : dg b (lastD p l) = true := by
  rcases (under_form b hb l).1 h with h' | ⟨r, rfl, h'⟩
  · exact row_lastD b l h' p
  · exact row_lastD b r h' 95
theorem good_pow (hex : Bool) (a b : Nat) (ha : hex = false ∧ a = 101 ∧ b = 69 ∨ hex = true ∧ a = 112 ∧ b = 80) (Y : List UInt8) (h : powerR a b Y = true) (p : UInt8) :
    good hex p Y = true ∧ preB hex (lastD p Y) = false := by
  obtain ⟨c, s, R, rfl, hc, hs, hR⟩ := (power_form a b (by omega) (by omega) Y).1 h
  have hR1 := row_al 10 (by omega) R hR
  have hcc : alR (c.toNat : Int) = true ∧ preB hex c = true := by
    rcases ha with ⟨rfl, rfl, rfl⟩ | ⟨rfl, rfl, rfl⟩ <;> rcases hc with rfl | rfl <;> decide
  constructor
  · rw [good, hcc.1, good_app]
    rcases hs with rfl | rfl | rfl
    · simp [good, good_al hex R hR1]
    · simp [good, hcc.2, good_al hex R hR1, show sgB 43 = true from by decide]
    · simp [good, hcc.2, good_al hex R hR1, show sgB 45 = true from by decide]
  · rw [lastD, lastD_app]; exact pre_dg hex _ (row_lastD 10 R hR _)
theorem good46 (hex : Bool) (p : UInt8) (r : List UInt8) : good hex p (46 :: r) = good hex 46 r := by
  rw [good, show alR ((46 : UInt8).toNat : Int) = true from by decide]; simp
theorem good95 (hex : Bool) (p : UInt8) (r : List UInt8) : good hex p (95 :: r) = good hex 95 r := by
  rw [good, show alR ((95 : UInt8).toNat : Int) = true from by decide]; simp
theorem begD_app (A B : List UInt8) (h : begD A = true) : begD (A ++ B) = true := by
  match A, h with
  | [c], h => simp only [begD, List.cons_append, List.nil_append, Bool.or_eq_true, Bool.and_eq_true] at h ⊢; rcases h with h | h; exact .inl h; cases h.2
  | c :: d :: r, h => exact h
theorem begD_row (A B : List UInt8) (h : rowR 10 A = true) : begD (A ++ B) = true := by
  obtain ⟨c, r, rfl, hc⟩ := row_head 10 A h
  simp [begD, hc]
theorem fit_float10 (l : List UInt8) (h : float10 l = true) : Fit false l := by
  rcases (float10_iff l).1 h with ⟨A, B, Y, rfl, hA, hD, hY⟩ | ⟨A, Y, rfl, hA, hY⟩
  · have hall := dd_all (by omega) hD
    have hAl : ∀ x ∈ A, alR (x.toNat : Int) = true := fun x hx => al_dg 10 (by omega) x (hall x (by simp [hx]))
    have hBl : ∀ x ∈ B, alR (x.toNat : Int) = true := fun x hx => al_dg 10 (by omega) x (hall x (by simp [hx]))
    refine ⟨by simp, ?_, ?_, ?_⟩
    · rw [good_app, good_al false A hAl, good46, good_app, good_al false B hBl]
      rcases hY with rfl | hY
      · rfl
      · rw [(good_pow false 101 69 (.inl ⟨rfl, rfl, rfl⟩) Y hY _).1]; rfl
    · rw [lastD_app, lastD, lastD_app]
      rcases hY with rfl | hY
      · rw [lastD]
        by_cases hB : B = []
        · subst hB; decide
        · rcases hD with ⟨_, h2⟩ | ⟨_, h2⟩
          · exact pre_dg _ _ (row_lastD 10 B (h2.resolve_left hB) _)
          · exact pre_dg _ _ (row_lastD 10 B h2 _)
      · exact (good_pow false 101 69 (.inl ⟨rfl, rfl, rfl⟩) Y hY _).2
    · rcases hD with ⟨h1, _⟩ | ⟨rfl, h2⟩
      · exact begD_row A _ h1
      · obtain ⟨c, r, rfl, hc⟩ := row_head 10 B h2
        simp [begD, hc]
  · refine ⟨?_, ?_, ?_, begD_row A Y hA⟩
    · have := rowR_pos 10 A hA; intro e; rw [List.append_eq_nil_iff] at e; rw [e.1] at this; simp at this
    · rw [good_app, good_al false A (row_al 10 (by omega) A hA), (good_pow false 101 69 (.inl ⟨rfl, rfl, rfl⟩) Y hY _).1]; rfl
    · rw [lastD_app]; exact (good_pow false 101 69 (.inl ⟨rfl, rfl, rfl⟩) Y hY _).2
theorem good_hf (u : Bool) (t : List UInt8) (h : HF u t) (p : UInt8) : good true p t = true ∧ preB true (lastD p t) = false := by
  rcases h with ⟨A, B, Y, rfl, _, hD, hY⟩ | ⟨A, Y, rfl, hA, hY⟩
  · have hall := dd_all (by omega) hD.dd
    have hAl : ∀ x ∈ A, alR (x.toNat : Int) = true := fun x hx => al_dg 16 (by omega) x (hall x (by simp [hx]))
    have hBl : ∀ x ∈ B, alR (x.toNat : Int) = true := fun x hx => al_dg 16 (by omega) x (hall x (by simp [hx]))
    constructor
    · rw [good_app, good_al true A hAl, good46, good_app, good_al true B hBl, (good_pow true 112 80 (.inr ⟨rfl, rfl, rfl⟩) Y hY _).1]; rfl
    · rw [lastD_app, lastD, lastD_app]; exact (good_pow true 112 80 (.inr ⟨rfl, rfl, rfl⟩) Y hY _).2
  · constructor
    · rw [good_app, good_al true A (row_al 16 (by omega) A hA), (good_pow true 112 80 (.inr ⟨rfl, rfl, rfl⟩) Y hY _).1]; rfl
    · rw [lastD_app]; exact (good_pow true 112 80 (.inr ⟨rfl, rfl, rfl⟩) Y hY _).2
theorem good48 (hex : Bool) (p c : UInt8) (r : List UInt8) (hc : alR (c.toNat : Int) = true) : good hex p (48 :: c :: r) = good hex c r := by
  rw [good, good, hc, show alR ((48 : UInt8).toNat : Int) = true from by decide]; simp
theorem fit_num (l : List UInt8) (h : intR l = true ∨ floatR l = true) : Fit (headedR 120 88 l) l := by
  have hb48 : ∀ r, begD (48 :: r) = true := fun r => by cases r <;> simp [begD, show dg 10 48 = true from by decide]
  rcases h with h | h
  · rcases (int_form l).1 h with (rfl | ⟨h', h48⟩ | ⟨t, rfl, h'⟩) | ⟨c, r, b, rfl, hb, h'⟩
    · exact ⟨by simp, by decide, by decide, by decide⟩
    · have hx : headedR 120 88 l = false := by
        rw [Bool.eq_false_iff]; intro hx; obtain ⟨c, r, e, _⟩ := (headX l).1 hx; exact h48 _ e
      rw [hx]
      obtain ⟨c, r, e, hc⟩ := row_head 10 l h'
      refine ⟨by rw [e]; simp, good_al _ l (row_al 10 (by omega) l h') _, pre_dg _ _ (row_lastD 10 l h' _), by have := begD_row l [] h'; simpa using this⟩
    · have hx : headedR 120 88 (48 :: t) = false := by
        rw [Bool.eq_false_iff]; intro hx; obtain ⟨c, r, e, hc⟩ := (headX _).1 hx
        simp only [List.cons.injEq, true_and] at e
        rcases under_all 8 (by omega) t h' c (by rw [e]; simp) with h | h
        · revert h; rcases hc with rfl | rfl <;> decide
        · subst h; rcases hc with h | h <;> cases h
      rw [hx]
      refine ⟨by simp, ?_, ?_, hb48 t⟩
      · rw [good, show alR ((48 : UInt8).toNat : Int) = true from by decide, good_al _ t (under_al 8 (by omega) t h')]; rfl
      · rw [lastD]; exact pre_dg _ _ (val8 _ (under_lastD 8 (by omega) t h' _))
    · have hb16 : b ≤ 16 := by rcases hb with ⟨rfl, _⟩ | ⟨rfl, _⟩ | ⟨rfl, _⟩ <;> omega
      have hcal : alR (c.toNat : Int) = true := by rcases hb with ⟨_, rfl | rfl⟩ | ⟨_, rfl | rfl⟩ | ⟨_, rfl | rfl⟩ <;> decide
      refine ⟨by simp, ?_, ?_, hb48 _⟩
      · rw [good48 _ _ _ _ hcal, good_al _ r (under_al b hb16 r h')]
      · have hl := under_lastD b hb16 r h' c
        rw [lastD, lastD]
        rcases hb with ⟨rfl, _⟩ | ⟨rfl, _⟩ | ⟨rfl, hc⟩
        · exact pre_dg _ _ (val2 _ hl)
        · exact pre_dg _ _ (val8 _ hl)
        · rw [(headX _).2 ⟨c, r, rfl, hc⟩]; exact pre_dg16 _ hl
  · rcases (float_form l).1 h with ⟨hx, h'⟩ | ⟨c, r, rfl, hc, h'⟩
    · rw [hx]; exact fit_float10 l h'
    · have hcal : alR (c.toNat : Int) = true := by rcases hc with rfl | rfl <;> decide
      rw [(headX _).2 ⟨c, r, rfl, hc⟩]
      have hg : good true c r = true ∧ preB true (lastD c r) = false := by
        rcases (hex_form r).1 h' with ⟨h2, _⟩ | ⟨t, rfl, h2⟩
        · exact good_hf _ _ h2 c
        · rw [good95, lastD]; exact good_hf _ _ h2 95
      exact ⟨by simp, by rw [good48 _ _ _ _ hcal]; exact hg.1, by rw [lastD, lastD]; exact hg.2, hb48 _⟩
theorem headed_app (t : List UInt8) (c : UInt8) (r : List UInt8) (h0 : t ≠ []) (hc : c ≠ 120 ∧ c ≠ 88) : headedR 120 88 (t ++ c :: r) = headedR 120 88 t := by
  match t, h0 with
  | [z], _ =>
    have e1 := u8n c 120 (by decide)
    have e2 := u8n c 88 (by decide)
    have n1 : ¬ ((c.toNat : Int) = 120) := fun h => hc.1 (e1.1 h)
    have n2 : ¬ ((c.toNat : Int) = 88) := fun h => hc.2 (e2.1 h)
    rw [List.cons_append, List.nil_append, headed_cons, headed_no _ _ [z] (by simp)]; simp [n1, n2]
  | z :: d :: r', _ => simp only [List.cons_append, headed_cons]
theorem fit_kind (l : List UInt8) (h : kindR l ≠ 0) : Fit (headedR 120 88 l) l := by
  rcases kind_form l with ⟨_, h2⟩ | ⟨_, h2, _⟩ | ⟨_, t, rfl, ht, h2⟩ | ⟨h1, _⟩
  · exact fit_num l (.inl h2)
  · exact fit_num l (.inr h2)
  · have hF : Fit (headedR 120 88 t) t := by
      rcases h2 with h2 | h2 | h2
      · exact fit_num t (.inl h2)
      · exact fit_num t (.inr h2)
      · have hx : headedR 120 88 t = false := by
          rw [Bool.eq_false_iff]; intro hx; obtain ⟨c, r, e, hc⟩ := (headX t).1 hx
          rcases row_all 10 (by omega) t h2 c (by rw [e]; simp) with h | h
          · revert h; rcases hc with rfl | rfl <;> decide
          · subst h; rcases hc with h | h <;> cases h
        rw [hx]
        refine ⟨ht, good_al _ t (row_al 10 (by omega) t h2) _, pre_dg _ _ (row_lastD 10 t h2 _), by have := begD_row t [] h2; simpa using this⟩
    rw [headed_app t 105 [] ht (by decide)]
    refine ⟨by simp, ?_, ?_, begD_app t _ hF.be⟩
    · rw [good_app, hF.gd, good, show alR ((105 : UInt8).toNat : Int) = true from by decide]; rfl
    · rw [lastD_app, lastD, lastD]; cases headedR 120 88 t <;> decide
  · exact absurd h1 h
/-- a number is found whole, wherever it stands, behind whatever ends it -/
theorem scan_whole (pre m : List UInt8) (c : UInt8) (r : List UInt8) (h : kindR m ≠ 0) (hc : alR (c.toNat : Int) = false) :
    scanA (pre ++ (m ++ c :: r)) (pre.length : Int) = (kindR m, ((pre.length + m.length : Nat) : Int), 0) := by
  have hF := fit_kind m h
  have hcx : c ≠ 120 ∧ c ≠ 88 := by
    constructor <;> rintro rfl <;> revert hc <;> decide
  have hm0 : 0 < m.length := List.length_pos_iff.2 hF.ne
  generalize hL : pre ++ (m ++ c :: r) = L
  have hlen : L.length = pre.length + m.length + 1 + r.length := by rw [← hL]; simp; omega
  have hdrop : L.drop pre.length = m ++ c :: r := by rw [← hL]; simp
  have hget : ∀ i, (hi : i < m.length) → L[pre.length + i]?.getD 0 = m[i] := by
    intro i hi
    rw [← hL, List.getElem?_append_right (by omega), Nat.add_sub_cancel_left, List.getElem?_append_left hi, List.getElem?_eq_getElem hi]; rfl
  have hgc : L[pre.length + m.length]?.getD 0 = c := by
    rw [← hL, List.getElem?_append_right (by omega), Nat.add_sub_cancel_left, List.getElem?_append_right (Nat.le_refl _)]; simp
  have hbeg : beginsR L pre.length = true := by
    unfold beginsR bat
    have h0 := hget 0 hm0
    rw [Nat.add_zero] at h0
    rw [h0, decide_eq_true (by omega)]
    have hb := hF.be
    match m, hm0, hb, hget, hgc, hlen with
    | [a], _, hb, _, _, _ => simp [begD] at hb; simp [hb]
    | a :: d :: m', _, hb, hget, _, hlen =>
      have h1 := hget 1 (by simp)
      simp only [List.length_cons] at hlen
      rw [h1, decide_eq_true (show pre.length + 1 < L.length from by omega)]
      simp only [begD, Bool.or_eq_true, Bool.and_eq_true, beq_iff_eq] at hb
      simp only [List.getElem_cons_zero, List.getElem_cons_succ, Bool.true_and, Bool.and_true, Bool.or_eq_true, Bool.and_eq_true, decide_eq_true_eq, i46]
      exact hb
  have hbegL : beginsL L pre.length = true := by rw [begins_eq]; exact hbeg
  have hhex : hexB L pre.length = headedR 120 88 m := by rw [hexB_eq, hdrop, headed_app m c r hF.ne hcx]
  have hend : endR L (headedR 120 88 m) pre.length = pre.length + m.length := by
    rw [end_eq]
    unfold endRR
    refine runF_eq _ _ _ _ (by omega) (by omega) ?_ ?_
    · intro j h1 h2
      obtain ⟨i, rfl⟩ : ∃ i, j = pre.length + i := ⟨j - pre.length, by omega⟩
      have hi : i < m.length := by omega
      have := good_get _ m 0 hF.gd i hi
      unfold contR bat
      rw [hget i hi]
      rcases this with h3 | ⟨h3, h4⟩
      · rw [h3]; rfl
      · by_cases h0 : i = 0
        · rw [if_pos h0] at h4; exfalso; revert h4; cases headedR 120 88 m <;> decide
        · rw [if_neg h0] at h4
          have e2 : L[pre.length + i - 1]?.getD 0 = m[i - 1]?.getD 0 := by
            rw [show pre.length + i - 1 = pre.length + (i - 1) from by omega, hget (i - 1) (by omega), List.getElem?_eq_getElem (by omega)]; rfl
          rw [e2, decide_eq_true (show pre.length < pre.length + i from by omega)]
          unfold sgB at h3; unfold preB at h4
          rw [h3, h4]; simp
    · unfold contR bat
      rw [hgc, hc]
      have e2 : L[pre.length + m.length - 1]?.getD 0 = lastD 0 m := by
        rw [lastD_get m 0 hF.ne, show pre.length + m.length - 1 = pre.length + (m.length - 1) from by omega, hget (m.length - 1) (by omega), List.getElem?_eq_getElem (by omega)]; rfl
      rw [e2]
      have := hF.la
      unfold preB at this
      rw [this]; simp
  unfold scanA
  rw [if_pos hbegL, Int.toNat_natCast, hhex]
  unfold scanR
  simp only [hend, hdrop, Nat.add_sub_cancel_left, List.take_left, kind_eq]
  rw [if_pos h]
/-- what a scan finds -/
theorem scan_found (l : List UInt8) (a : Int) : scanA l a = (0, 0, 15) ∨ scanA l a = (0, 0, 4) ∨
    ∃ k to : Nat, a = k ∧ k < to ∧ to ≤ l.length ∧ kindR ((l.drop k).take (to - k)) ≠ 0 ∧ scanA l a = (kindR ((l.drop k).take (to - k)), (to : Int), 0) := by
  unfold scanA
  by_cases hb : beginsL l a = true
  · rw [if_pos hb]
    have ha : 0 ≤ a := by
      apply Classical.byContradiction; intro hn; rw [begins_neg l a (by omega)] at hb; cases hb
    obtain ⟨k, rfl⟩ := Int.eq_ofNat_of_zero_le ha
    rw [begins_eq] at hb
    rw [Int.toNat_natCast]
    have hgt := endRR_gt l (hexB l k) k hb
    rw [← end_eq] at hgt
    unfold scanR
    simp only [kind_eq]
    by_cases hk : kindR ((l.drop k).take (endR l (hexB l k) k - k)) ≠ 0
    · rw [if_pos hk]; exact .inr (.inr ⟨k, _, rfl, hgt.1, hgt.2, hk, rfl⟩)
    · rw [if_neg hk]; exact .inr (.inl rfl)
  · rw [if_neg hb]; exact .inl rfl
end Go.Proofs.Ytdebafbhphobcaa
