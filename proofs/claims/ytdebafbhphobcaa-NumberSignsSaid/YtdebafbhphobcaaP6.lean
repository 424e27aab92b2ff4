import Derived.Test.YtdebafbhphobcaaQ1
namespace Go.Proofs.Ytdebafbhphobcaa
open Go.RowKit

/-- a power, taken apart -/
theorem power_form (a b : Nat) (ha : a < 256) (hb : b < 256) (Y : List UInt8) :
    powerR a b Y = true ↔ ∃ c s R, Y = c :: (s ++ R) ∧ (c = UInt8.ofNat a ∨ c = UInt8.ofNat b) ∧ (s = [] ∨ s = [43] ∨ s = [45]) ∧ rowR 10 R = true := by
  match Y with
  | [] => simp [powerR]
  | [c] =>
    constructor
    · intro h; simp [powerR] at h
    · rintro ⟨c', s, R, e, _, hs, hR⟩
      have := rowR_pos 10 R hR
      have h2 := congrArg List.length e
      simp only [List.length_cons, List.length_append, List.length_nil] at h2; omega
  | c :: d :: r =>
    have e0 : bat (c :: d :: r) 0 = (c.toNat : Int) := by simp [bat]
    have e1 : bat (c :: d :: r) 1 = (d.toNat : Int) := by simp [bat]
    unfold powerR
    rw [e0, e1]
    simp only [List.length_cons, List.drop_succ_cons, List.drop_zero, List.tail_cons, i43, i45, u8n c a ha, u8n c b hb, Bool.and_eq_true, Bool.or_eq_true, decide_eq_true_eq]
    constructor
    · rintro ⟨⟨_, hc⟩, h⟩
      by_cases hd : d = 43 ∨ d = 45
      · rw [if_pos hd] at h
        refine ⟨c, [d], r, rfl, hc, ?_, h⟩
        rcases hd with rfl | rfl
        · exact .inr (.inl rfl)
        · exact .inr (.inr rfl)
      · rw [if_neg hd] at h
        exact ⟨c, [], d :: r, rfl, hc, .inl rfl, h⟩
    · rintro ⟨c', s, R, e, hc, hs, hR⟩
      have hnd : dg 10 43 = false ∧ dg 10 45 = false := by decide
      rcases hs with rfl | rfl | rfl
      · simp only [List.nil_append, List.cons.injEq] at e
        obtain ⟨rfl, rfl⟩ := e
        have hdg : dg 10 d = true := by
          apply Classical.byContradiction; intro hn
          simp [rowR, hn] at hR
        have hd : ¬ (d = 43 ∨ d = 45) := by
          rintro (rfl | rfl)
          · rw [hnd.1] at hdg; cases hdg
          · rw [hnd.2] at hdg; cases hdg
        rw [if_neg hd]; exact ⟨⟨by omega, hc⟩, hR⟩
      · simp only [List.cons_append, List.nil_append, List.cons.injEq] at e
        obtain ⟨rfl, rfl, rfl⟩ := e
        rw [if_pos (.inl rfl)]; exact ⟨⟨by omega, hc⟩, hR⟩
      · simp only [List.cons_append, List.nil_append, List.cons.injEq] at e
        obtain ⟨rfl, rfl, rfl⟩ := e
        rw [if_pos (.inr rfl)]; exact ⟨⟨by omega, hc⟩, hR⟩
theorem under_form (b : Int) (hb : b ≤ 16) (l : List UInt8) : underR b l = true ↔ rowR b l = true ∨ ∃ r, l = 95 :: r ∧ rowR b r = true := by
  rcases us_or l with ⟨r, rfl⟩ | h
  · rw [under_us b hb]
    constructor
    · exact fun h => .inr ⟨r, rfl, h⟩
    · rintro (h | ⟨r', e, h⟩)
      · simp [rowR, dg_us b hb] at h
      · simp only [List.cons.injEq, true_and] at e; rw [e]; exact h
  · rw [under_no b l h]
    constructor
    · exact fun h => .inl h
    · rintro (h' | ⟨r, e, _⟩)
      · exact h'
      · exact absurd e (h r)
/-- the whole numbers: without a letter, or with one and its base -/
theorem int_form (l : List UInt8) : intR l = true ↔ (l = [48] ∨ (rowR 10 l = true ∧ ∀ r, l ≠ 48 :: r) ∨ (∃ t, l = 48 :: t ∧ underR 8 t = true)) ∨
    (∃ c r b, l = 48 :: c :: r ∧ ((b = 2 ∧ (c = 98 ∨ c = 66)) ∨ (b = 8 ∧ (c = 111 ∨ c = 79)) ∨ (b = 16 ∧ (c = 120 ∨ c = 88))) ∧ underR b r = true) := by
  have hhead : ∀ a b : Nat, a < 256 → b < 256 → (headedR a b l = true ↔ ∃ c r, l = 48 :: c :: r ∧ (c = UInt8.ofNat a ∨ c = UInt8.ofNat b)) := by
    intro a b ha hb
    match l with
    | [] => simp [headedR]
    | [z] => simp [headedR]
    | z :: c :: r =>
      rw [headed_cons]
      simp only [i48, u8n c a ha, u8n c b hb, Bool.and_eq_true, Bool.or_eq_true, decide_eq_true_eq, List.cons.injEq]
      constructor
      · rintro ⟨rfl, h⟩; exact ⟨c, r, ⟨rfl, rfl, rfl⟩, h⟩
      · rintro ⟨c', r', ⟨rfl, rfl, rfl⟩, h⟩; exact ⟨rfl, h⟩
  have h10 : int10 l = true ↔ (l = [48] ∨ (rowR 10 l = true ∧ ∀ r, l ≠ 48 :: r) ∨ (∃ t, l = 48 :: t ∧ underR 8 t = true)) := by
    unfold int10
    match l with
    | [] => simp [rowR]
    | c :: t =>
      have e0 : bat (c :: t) 0 = (c.toNat : Int) := by simp [bat]
      rw [e0]
      simp only [i48, Bool.or_eq_true, Bool.and_eq_true, decide_eq_true_eq, Bool.not_eq_true', decide_eq_false_iff_not, List.tail_cons, List.length_cons, List.cons.injEq]
      constructor
      · rintro ((h | ⟨h, h2⟩) | ⟨⟨_, h⟩, h2⟩)
        · exact .inl h
        · exact .inr (.inl ⟨h, fun r => by simp [h2]⟩)
        · exact .inr (.inr ⟨t, ⟨h, rfl⟩, h2⟩)
      · rintro (h | ⟨h, h2⟩ | ⟨t', ⟨h, rfl⟩, h2⟩)
        · exact .inl (.inl h)
        · exact .inl (.inr ⟨h, fun e => h2 t (by simp [e])⟩)
        · refine .inr ⟨⟨?_, h⟩, h2⟩
          rcases (under_form 8 (by omega) t).1 h2 with h3 | ⟨r, e, h3⟩
          · have := rowR_pos 8 t h3; omega
          · rw [e]; simp
  rw [int_eq]
  have h1 := hhead 98 66 (by decide) (by decide)
  have h2 := hhead 111 79 (by decide) (by decide)
  have h3 := hhead 120 88 (by decide) (by decide)
  simp only [Bool.or_eq_true, Bool.and_eq_true, Bool.not_eq_true', h10]
  constructor
  · rintro ((h | ⟨h, hu⟩) | ⟨_, (⟨h, hu⟩ | ⟨⟨_, h⟩, hu⟩)⟩)
    · exact .inl h
    · obtain ⟨c, r, e, hc⟩ := h1.1 h; rw [e] at hu; exact .inr ⟨c, r, 2, e, .inl ⟨rfl, hc⟩, hu⟩
    · obtain ⟨c, r, e, hc⟩ := h2.1 h; rw [e] at hu; exact .inr ⟨c, r, 8, e, .inr (.inl ⟨rfl, hc⟩), hu⟩
    · obtain ⟨c, r, e, hc⟩ := h3.1 h; rw [e] at hu; exact .inr ⟨c, r, 16, e, .inr (.inr ⟨rfl, hc⟩), hu⟩
  · rintro (h | ⟨c, r, b, e, h, hu⟩)
    · exact .inl (.inl h)
    · rcases h with ⟨rfl, hc⟩ | ⟨rfl, hc⟩ | ⟨rfl, hc⟩
      · exact .inl (.inr ⟨h1.2 ⟨c, r, e, hc⟩, by rw [e]; exact hu⟩)
      · have n1 : headedR 98 66 l = false := by
          rw [Bool.eq_false_iff]; intro h; obtain ⟨c', r', e', hc'⟩ := h1.1 h
          rw [e] at e'; simp only [List.cons.injEq, true_and] at e'; obtain ⟨rfl, rfl⟩ := e'
          revert hc hc'; rintro (rfl | rfl) (h | h) <;> revert h <;> decide
        exact .inr ⟨n1, .inl ⟨h2.2 ⟨c, r, e, hc⟩, by rw [e]; exact hu⟩⟩
      · have n1 : headedR 98 66 l = false := by
          rw [Bool.eq_false_iff]; intro h; obtain ⟨c', r', e', hc'⟩ := h1.1 h
          rw [e] at e'; simp only [List.cons.injEq, true_and] at e'; obtain ⟨rfl, rfl⟩ := e'
          revert hc hc'; rintro (rfl | rfl) (h | h) <;> revert h <;> decide
        have n2 : headedR 111 79 l = false := by
          rw [Bool.eq_false_iff]; intro h; obtain ⟨c', r', e', hc'⟩ := h2.1 h
          rw [e] at e'; simp only [List.cons.injEq, true_and] at e'; obtain ⟨rfl, rfl⟩ := e'
          revert hc hc'; rintro (rfl | rfl) (h | h) <;> revert h <;> decide
        exact .inr ⟨n1, .inr ⟨⟨n2, h3.2 ⟨c, r, e, hc⟩⟩, by rw [e]; exact hu⟩⟩
theorem headX (l : List UInt8) : headedR 120 88 l = true ↔ ∃ c r, l = 48 :: c :: r ∧ (c = 120 ∨ c = 88) := by
  match l with
  | [] => simp [headedR]
  | [z] => simp [headedR]
  | z :: c :: r =>
    rw [headed_cons]
    have e1 := u8n c 120 (by decide)
    have e2 := u8n c 88 (by decide)
    simp only [i48, Bool.and_eq_true, Bool.or_eq_true, decide_eq_true_eq, List.cons.injEq]
    constructor
    · rintro ⟨rfl, h⟩; exact ⟨c, r, ⟨rfl, rfl, rfl⟩, h.imp e1.1 e2.1⟩
    · rintro ⟨c', r', ⟨rfl, rfl, rfl⟩, h⟩; exact ⟨rfl, h.imp e1.2 e2.2⟩
theorem not10_of_x (c : UInt8) (r : List UInt8) (hc : c = 120 ∨ c = 88) : int10 (48 :: c :: r) = false ∧ float10 (48 :: c :: r) = false := by
  have h0 : tenL (48 :: c :: r) = 0 := by
    rcases hc with rfl | rfl
    · exact ten_zero 120 r (by decide) (by decide) (by decide) (pow_no 120 r (by decide))
    · exact ten_zero 88 r (by decide) (by decide) (by decide) (pow_no 88 r (by decide))
  rw [ten_eq] at h0
  cases hi : int10 (48 :: c :: r)
  · cases hf : float10 (48 :: c :: r)
    · exact ⟨rfl, rfl⟩
    · rw [hi, hf] at h0; simp at h0
  · rw [hi] at h0; simp at h0
theorem float_form (l : List UInt8) : floatR l = true ↔ (headedR 120 88 l = false ∧ float10 l = true) ∨ (∃ c r, l = 48 :: c :: r ∧ (c = 120 ∨ c = 88) ∧ hexfl r = true) := by
  rw [float_eq]
  by_cases h : headedR 120 88 l = true
  · rw [if_pos h]
    obtain ⟨c, r, e, hc⟩ := (headX l).1 h
    constructor
    · intro hf; rw [e] at hf; exact .inr ⟨c, r, e, hc, hf⟩
    · rintro (⟨h2, _⟩ | ⟨c', r', e', _, hf⟩)
      · rw [h] at h2; cases h2
      · rw [e']; exact hf
  · rw [if_neg h]
    constructor
    · intro hf; exact .inl ⟨by simpa using h, hf⟩
    · rintro (⟨_, hf⟩ | ⟨c', r', e', hc, hf⟩)
      · exact hf
      · exact absurd ((headX l).2 ⟨c', r', e', hc⟩) h
theorem hex_form (r : List UInt8) : hexfl r = true ↔ HF false r ∧ (∀ t, r ≠ 95 :: t) ∨ ∃ t, r = 95 :: t ∧ HF true t := by
  rcases us_or r with ⟨t, rfl⟩ | h
  · rw [hex_us]
    constructor
    · exact fun h => .inr ⟨t, rfl, h⟩
    · rintro (⟨_, h⟩ | ⟨t', e, h⟩)
      · exact absurd rfl (h t)
      · simp only [List.cons.injEq, true_and] at e; rw [e]; exact h
  · rw [hex_no r h]
    constructor
    · exact fun h' => .inl ⟨h', h⟩
    · rintro (⟨h', _⟩ | ⟨t', e, _⟩)
      · exact h'
      · exact absurd e (h t')
theorem excl10 (l : List UInt8) (h : float10 l = true) : int10 l = false := by
  by_cases hn : rowL 10 l = l.length ∧ 0 < rowL 10 l
  · exfalso
    have hmem := row_mem 10 l hn.1
    rw [float10_iff] at h
    rcases h with ⟨A, B, Y, e, _⟩ | ⟨A, Y, e, _, hY⟩
    · have := hmem 46 (by rw [e]; simp)
      rcases this with h | h
      · revert h; decide
      · cases h
    · match Y, hY with
      | y :: Y', hY =>
        have h3 := SysE.st y Y' hY
        rcases hmem y (by rw [e]; simp) with h | h
        · rw [h3.1] at h; cases h
        · exact h3.2.1 h
  · have h4 := ((ten_float l hn).1).1 h
    rw [ten_eq] at h4
    cases hi : int10 l
    · rfl
    · rw [hi] at h4; simp at h4
theorem hf_p (u : Bool) (t : List UInt8) (h : HF u t) : (112 : UInt8) ∈ t ∨ (80 : UInt8) ∈ t := by
  have key : ∀ Y, powerR 112 80 Y = true → (112 : UInt8) ∈ Y ∨ (80 : UInt8) ∈ Y := by
    intro Y hY
    obtain ⟨c, s, R, e, hc, _⟩ := (power_form 112 80 (by decide) (by decide) Y).1 hY
    rw [e]
    rcases hc with rfl | rfl
    · left; exact List.mem_cons_self
    · right; exact List.mem_cons_self
  rcases h with ⟨A, B, Y, e, _, _, hY⟩ | ⟨A, Y, e, _, hY⟩
  · rw [e]; rcases key Y hY with h | h
    · left; simp [h]
    · right; simp [h]
  · rw [e]; rcases key Y hY with h | h
    · left; simp [h]
    · right; simp [h]
theorem excl (l : List UInt8) (h : floatR l = true) : intR l = false := by
  rcases (float_form l).1 h with ⟨hx, hf⟩ | ⟨c, r, e, hc, hf⟩
  · have h1 := excl10 l hf
    rw [Bool.eq_false_iff]
    intro hi
    rw [int_eq, h1, hx] at hi
    simp only [Bool.false_or, Bool.and_false, Bool.false_and, Bool.or_false, Bool.or_eq_true, Bool.and_eq_true, Bool.not_eq_true'] at hi
    -- headed b or o: then it is no float of base ten
    have hz : ∃ c r, l = 48 :: c :: r ∧ (c = 98 ∨ c = 66 ∨ c = 111 ∨ c = 79) := by
      match l, hi with
      | [], hi => simp [headedR] at hi
      | [z], hi => simp [headedR] at hi
      | z :: c :: r, hi =>
        rw [headed_cons, headed_cons] at hi
        have e1 := u8n c 98 (by decide)
        have e2 := u8n c 66 (by decide)
        have e3 := u8n c 111 (by decide)
        have e4 := u8n c 79 (by decide)
        simp only [i48, Bool.and_eq_true, Bool.or_eq_true, decide_eq_true_eq] at hi
        rcases hi with ⟨⟨hz, hcc⟩, _⟩ | ⟨_, ⟨hz, hcc⟩, _⟩
        · exact ⟨c, r, by rw [hz], hcc.elim (fun h => .inl (e1.1 h)) (fun h => .inr (.inl (e2.1 h)))⟩
        · exact ⟨c, r, by rw [hz], hcc.elim (fun h => .inr (.inr (.inl (e3.1 h)))) (fun h => .inr (.inr (.inr (e4.1 h))))⟩
    obtain ⟨c, r, e, hc⟩ := hz
    have h0 : tenL (48 :: c :: r) = 0 := by
      rcases hc with rfl | rfl | rfl | rfl
      · exact ten_zero 98 r (by decide) (by decide) (by decide) (pow_no 98 r (by decide))
      · exact ten_zero 66 r (by decide) (by decide) (by decide) (pow_no 66 r (by decide))
      · exact ten_zero 111 r (by decide) (by decide) (by decide) (pow_no 111 r (by decide))
      · exact ten_zero 79 r (by decide) (by decide) (by decide) (pow_no 79 r (by decide))
    rw [ten_eq, ← e, hf, h1] at h0
    simp at h0
  · rw [Bool.eq_false_iff]
    intro hi
    have h1 := not10_of_x c r hc
    rw [int_eq, e, h1.1] at hi
    have hu : underR 16 r = true := by
      simp only [headed_cons, Bool.false_or, List.drop_succ_cons, List.drop_zero] at hi
      rcases hc with rfl | rfl
      · simpa using hi
      · simpa using hi
    have hall : ∀ x ∈ r, dg 16 x = true ∨ x = 95 := by
      rcases (under_form 16 (by omega) r).1 hu with h | ⟨r', e', h⟩
      · exact row_mem 16 r ((rowR_iff 16 (by omega) r).1 h).2
      · have := row_mem 16 r' ((rowR_iff 16 (by omega) r').1 h).2
        rw [e']; intro x hx; rcases List.mem_cons.1 hx with rfl | hx
        · exact .inr rfl
        · exact this x hx
    have hp : (112 : UInt8) ∈ r ∨ (80 : UInt8) ∈ r := by
      rcases (hex_form r).1 hf with ⟨h, _⟩ | ⟨t, e', h⟩
      · exact hf_p _ _ h
      · rw [e']; rcases hf_p _ _ h with h | h
        · left; exact List.mem_cons_of_mem _ h
        · right; exact List.mem_cons_of_mem _ h
    rcases hp with hp | hp
    · rcases hall _ hp with h | h
      · revert h; decide
      · cases h
    · rcases hall _ hp with h | h
      · revert h; decide
      · cases h
end Go.Proofs.Ytdebafbhphobcaa
