import Derived.Test.YtdebafbhphobcaaP6
import Derived.Test.YtdebafbhphobcaaQ3
namespace Go.Proofs.Ytdebafbhphobcaa
open Go.RowKit

theorem row_all (b : Int) (hb : b ≤ 16) (l : List UInt8) (h : rowR b l = true) : ∀ x ∈ l, dg b x = true ∨ x = 95 := row_mem b l ((rowR_iff b hb l).1 h).2
theorem row_head (b : Int) (l : List UInt8) (h : rowR b l = true) : ∃ c r, l = c :: r ∧ dg b c = true := by
  match l, h with
  | c :: r, h =>
    refine ⟨c, r, rfl, ?_⟩
    apply Classical.byContradiction; intro hn; simp [rowR, hn] at h
theorem under_all (b : Int) (hb : b ≤ 16) (l : List UInt8) (h : underR b l = true) : ∀ x ∈ l, dg b x = true ∨ x = 95 := by
  rcases (under_form b hb l).1 h with h | ⟨r, e, h⟩
  · exact row_all b hb l h
  · rw [e]; intro x hx; rcases List.mem_cons.1 hx with rfl | hx
    · exact .inr rfl
    · exact row_all b hb r h x hx
theorem dd_all {b : Int} (hb : b ≤ 16) {A B : List UInt8} (h : DD b A B) : ∀ x ∈ A ++ B, dg b x = true ∨ x = 95 := by
  obtain ⟨h1, h2, _⟩ := h.full hb
  intro x hx
  rcases List.mem_append.1 hx with hx | hx
  · exact row_mem b A h1 x hx
  · exact row_mem b B h2 x hx
/-- the bytes of numbers without an i -/
def num16 (x : UInt8) : Bool := dg 16 x || x == 95 || x == 46 || x == 43 || x == 45 || x == 120 || x == 88 || x == 112 || x == 80 || x == 111 || x == 79 || x == 98 || x == 66
theorem dg_num (b : Int) (hb : b ≤ 16) (x : UInt8) (h : dg b x = true ∨ x = 95) : num16 x = true := by
  rcases h with h | h
  · have : dg 16 x = true := by simp only [dg, decide_eq_true_eq] at *; omega
    simp [num16, this]
  · subst h; decide
theorem pow_all (a b : Nat) (ha : a = 101 ∧ b = 69 ∨ a = 112 ∧ b = 80) (Y : List UInt8) (h : powerR a b Y = true) : ∀ x ∈ Y, num16 x = true := by
  obtain ⟨c, s, R, e, hc, hs, hR⟩ := (power_form a b (by omega) (by omega) Y).1 h
  rw [e]; intro x hx
  rcases List.mem_cons.1 hx with rfl | hx
  · rcases ha with ⟨rfl, rfl⟩ | ⟨rfl, rfl⟩ <;> rcases hc with rfl | rfl <;> decide
  · rcases List.mem_append.1 hx with hx | hx
    · rcases hs with rfl | rfl | rfl
      · cases hx
      · simp at hx; subst hx; decide
      · simp at hx; subst hx; decide
    · exact dg_num 10 (by omega) x (row_all 10 (by omega) R hR x hx)
theorem int_all (l : List UInt8) (h : intR l = true) : ∀ x ∈ l, num16 x = true := by
  rcases (int_form l).1 h with (rfl | ⟨h, _⟩ | ⟨t, rfl, h'⟩) | ⟨c, r, b, rfl, hb, h'⟩
  · intro x hx; simp at hx; subst hx; decide
  · exact fun x hx => dg_num 10 (by omega) x (row_all 10 (by omega) l h x hx)
  · intro x hx; rcases List.mem_cons.1 hx with rfl | hx
    · decide
    · exact dg_num 8 (by omega) x (under_all 8 (by omega) t h' x hx)
  · intro x hx
    rcases List.mem_cons.1 hx with rfl | hx
    · decide
    · rcases List.mem_cons.1 hx with rfl | hx
      · rcases hb with ⟨_, rfl | rfl⟩ | ⟨_, rfl | rfl⟩ | ⟨_, rfl | rfl⟩ <;> decide
      · have hb16 : b ≤ 16 := by rcases hb with ⟨rfl, _⟩ | ⟨rfl, _⟩ | ⟨rfl, _⟩ <;> omega
        exact dg_num b hb16 x (under_all b hb16 r h' x hx)
theorem hf_all (u : Bool) (t : List UInt8) (h : HF u t) : ∀ x ∈ t, num16 x = true := by
  rcases h with ⟨A, B, Y, rfl, _, hD, hY⟩ | ⟨A, Y, rfl, hA, hY⟩
  · have hd := dd_all (by omega) hD.dd
    intro x hx
    simp only [List.mem_append, List.mem_cons] at hx
    rcases hx with hx | rfl | hx | hx
    · exact dg_num 16 (by omega) x (hd x (by simp [hx]))
    · decide
    · exact dg_num 16 (by omega) x (hd x (by simp [hx]))
    · exact pow_all 112 80 (.inr ⟨rfl, rfl⟩) Y hY x hx
  · intro x hx
    rcases List.mem_append.1 hx with hx | hx
    · exact dg_num 16 (by omega) x (row_all 16 (by omega) A hA x hx)
    · exact pow_all 112 80 (.inr ⟨rfl, rfl⟩) Y hY x hx
theorem float_all (l : List UInt8) (h : floatR l = true) : ∀ x ∈ l, num16 x = true := by
  rcases (float_form l).1 h with ⟨_, h⟩ | ⟨c, r, rfl, hc, h⟩
  · rcases (float10_iff l).1 h with ⟨A, B, Y, rfl, _, hD, hY⟩ | ⟨A, Y, rfl, hA, hY⟩
    · have hd := dd_all (by omega) hD
      intro x hx
      simp only [List.mem_append, List.mem_cons] at hx
      rcases hx with hx | rfl | hx | hx
      · exact dg_num 10 (by omega) x (hd x (by simp [hx]))
      · decide
      · exact dg_num 10 (by omega) x (hd x (by simp [hx]))
      · rcases hY with rfl | hY
        · cases hx
        · exact pow_all 101 69 (.inl ⟨rfl, rfl⟩) Y hY x hx
    · intro x hx
      rcases List.mem_append.1 hx with hx | hx
      · exact dg_num 10 (by omega) x (row_all 10 (by omega) A hA x hx)
      · exact pow_all 101 69 (.inl ⟨rfl, rfl⟩) Y hY x hx
  · intro x hx
    rcases List.mem_cons.1 hx with rfl | hx
    · decide
    · rcases List.mem_cons.1 hx with rfl | hx
      · rcases hc with rfl | rfl <;> decide
      · rcases (hex_form r).1 h with ⟨h', _⟩ | ⟨t, rfl, h'⟩
        · exact hf_all _ _ h' x hx
        · rcases List.mem_cons.1 hx with rfl | hx
          · decide
          · exact hf_all _ _ h' x hx
theorem no_i (t : List UInt8) : intR (t ++ [105]) = false ∧ floatR (t ++ [105]) = false := by
  have h0 : num16 105 = false := by decide
  constructor
  · rw [Bool.eq_false_iff]; intro h; have := int_all _ h 105 (by simp); rw [h0] at this; cases this
  · rw [Bool.eq_false_iff]; intro h; have := float_all _ h 105 (by simp); rw [h0] at this; cases this
theorem kind_i (t : List UInt8) : kindR (t ++ [105]) = if t ≠ [] ∧ (intR t = true ∨ floatR t = true ∨ rowR 10 t = true) then 5 else 0 := by
  unfold kindR
  rw [(no_i t).1, (no_i t).2]
  simp only [Bool.false_eq_true, if_false, List.length_append, List.length_cons, List.length_nil, Nat.zero_add, Nat.add_sub_cancel, List.take_left]
  have : bat (t ++ [105]) t.length = 105 := by simp [bat]
  rw [this]
  by_cases ht : t = []
  · subst ht; simp
  · have : 0 < t.length := List.length_pos_iff.2 ht
    simp [ht, this]
theorem kind_no (t : List UInt8) (c : UInt8) (hc : c ≠ 105) : kindR (t ++ [c]) = if intR (t ++ [c]) = true then 3 else if floatR (t ++ [c]) = true then 4 else 0 := by
  unfold kindR
  have : ¬ bat (t ++ [c]) ((t ++ [c]).length - 1) = 105 := by
    have e : bat (t ++ [c]) ((t ++ [c]).length - 1) = (c.toNat : Int) := by simp [bat]
    rw [e]; intro h; exact hc ((u8n c 105 (by decide)).1 h)
  rw [if_neg (c := 1 < _ ∧ _) (fun h => this h.2.1)]
theorem snoc_or (l : List UInt8) : l = [] ∨ ∃ t c, l = t ++ [c] := by
  by_cases h : l = []
  · exact .inl h
  · exact .inr ⟨l.dropLast, l.getLast h, (List.dropLast_concat_getLast h).symm⟩
theorem kind_nil : kindR [] = 0 := by rw [← kind_eq]; decide +kernel
/-- a kind, taken apart -/
theorem kind_form (l : List UInt8) : (kindR l = 3 ∧ intR l = true) ∨ (kindR l = 4 ∧ floatR l = true ∧ intR l = false) ∨
    (kindR l = 5 ∧ ∃ t, l = t ++ [105] ∧ t ≠ [] ∧ (intR t = true ∨ floatR t = true ∨ rowR 10 t = true)) ∨ (kindR l = 0 ∧ intR l = false ∧ floatR l = false) := by
  rcases snoc_or l with rfl | ⟨t, c, rfl⟩
  · right; right; right; exact ⟨kind_nil, by decide, by decide⟩
  · by_cases hc : c = 105
    · subst hc
      rw [kind_i]
      by_cases h : t ≠ [] ∧ (intR t = true ∨ floatR t = true ∨ rowR 10 t = true)
      · rw [if_pos h]; right; right; left; exact ⟨rfl, t, rfl, h⟩
      · rw [if_neg h]; right; right; right; exact ⟨rfl, no_i t⟩
    · rw [kind_no t c hc]
      by_cases hi : intR (t ++ [c]) = true
      · rw [if_pos hi]; exact .inl ⟨rfl, hi⟩
      · rw [if_neg hi]
        by_cases hf : floatR (t ++ [c]) = true
        · rw [if_pos hf]; exact .inr (.inl ⟨rfl, hf, by simpa using hi⟩)
        · rw [if_neg hf]; exact .inr (.inr (.inr ⟨rfl, by simpa using hi, by simpa using hf⟩))
/-- NumberImag -/
theorem imag_law (l : List UInt8) : ((kindR l = 3 ∨ kindR l = 4) → kindR (l ++ [105]) = 5) ∧ (kindR l = 5 → kindR (l ++ [105]) = 0) ∧ (kindR (l ++ [105]) = 0 ∨ kindR (l ++ [105]) = 5) ∧ (kindR l = 3 ∨ kindR l = 4 ∨ kindR l = 5 ∨ kindR l = 0) := by
  rw [kind_i]
  refine ⟨?_, ?_, ?_, ?_⟩
  · intro h
    have hne : l ≠ [] := by rintro rfl; rw [kind_nil] at h; omega
    rcases kind_form l with ⟨_, h1⟩ | ⟨_, h1, _⟩ | ⟨h1, _⟩ | ⟨h1, _⟩
    · rw [if_pos ⟨hne, .inl h1⟩]
    · rw [if_pos ⟨hne, .inr (.inl h1)⟩]
    · omega
    · omega
  · intro h
    rcases kind_form l with ⟨h1, _⟩ | ⟨h1, _⟩ | ⟨_, t, rfl, _⟩ | ⟨h1, _⟩
    · omega
    · omega
    · rw [if_neg]
      rintro ⟨_, h | h | h⟩
      · rw [(no_i t).1] at h; cases h
      · rw [(no_i t).2] at h; cases h
      · rcases row_all 10 (by omega) _ h 105 (by simp) with h | h
        · revert h; decide
        · cases h
    · omega
  · split
    · exact .inr rfl
    · exact .inl rfl
  · rcases kind_form l with ⟨h1, _⟩ | ⟨h1, _⟩ | ⟨h1, _⟩ | ⟨h1, _⟩ <;> omega

-- without the underscores
theorem wo_app (A B : List UInt8) : wo 95 (A ++ B) = wo 95 A ++ wo 95 B := List.filter_append ..
theorem wo_cons (c : UInt8) (r : List UInt8) (h : c ≠ 95) : wo 95 (c :: r) = c :: wo 95 r := by simp [wo, List.filter_cons, h]
theorem wo_us (r : List UInt8) : wo 95 (95 :: r) = wo 95 r := by simp [wo]
theorem row_of_all (b : Int) (hb : b ≤ 16) (l : List UInt8) (h0 : l ≠ []) (h : ∀ x ∈ l, dg b x = true) : rowR b l = true := by
  rw [rowR_iff b hb]
  refine ⟨h0, ?_⟩
  have ht : ∀ r : List UInt8, (∀ x ∈ r, dg b x = true) → tailL b r = r.length := by
    intro r
    induction r with
    | nil => intro _; rfl
    | cons u r ih =>
      intro hr
      rw [tailL_cons, if_pos (hr u (by simp)), ih (fun x hx => hr x (by simp [hx]))]; simp; omega
  match l, h0, h with
  | c :: r, _, h => simp only [rowL, h c (by simp), if_true, ht r (fun x hx => h x (by simp [hx])), List.length_cons]; omega
theorem wo_row (b : Int) (hb : b ≤ 16) (l : List UInt8) (h : rowR b l = true) : rowR b (wo 95 l) = true := by
  obtain ⟨c, r, e, hc⟩ := row_head b l h
  have hall := row_all b hb l h
  refine row_of_all b hb _ ?_ ?_
  · have hc95 : c ≠ 95 := by rintro rfl; rw [dg_us b hb] at hc; cases hc
    rw [e, wo_cons c r hc95]; simp
  · intro x hx
    simp only [wo, List.mem_filter, bne_iff_ne] at hx
    exact (hall x hx.1).resolve_right hx.2
theorem wo_under (b : Int) (hb : b ≤ 16) (l : List UInt8) (h : underR b l = true) : rowR b (wo 95 l) = true := by
  rcases (under_form b hb l).1 h with h' | ⟨r, rfl, h'⟩
  · exact wo_row b hb l h'
  · rw [wo_us]; exact wo_row b hb r h'
theorem under_of_row (b : Int) (hb : b ≤ 16) (l : List UInt8) (h : rowR b l = true) : underR b l = true := (under_form b hb l).2 (.inl h)
theorem wo_dd {b : Int} (hb : b ≤ 16) {A B : List UInt8} (h : DD b A B) : DD b (wo 95 A) (wo 95 B) := by
  rcases h with ⟨h1, h2⟩ | ⟨rfl, h2⟩
  · left; refine ⟨wo_row b hb A h1, ?_⟩
    rcases h2 with rfl | h2
    · exact .inl rfl
    · exact .inr (wo_row b hb B h2)
  · right; exact ⟨rfl, wo_row b hb B h2⟩
theorem wo_pow (a b : Nat) (ha : a = 101 ∧ b = 69 ∨ a = 112 ∧ b = 80) (Y : List UInt8) (h : powerR a b Y = true) : powerR a b (wo 95 Y) = true := by
  obtain ⟨c, s, R, rfl, hc, hs, hR⟩ := (power_form a b (by omega) (by omega) Y).1 h
  have hc95 : c ≠ 95 := by rcases ha with ⟨rfl, rfl⟩ | ⟨rfl, rfl⟩ <;> rcases hc with rfl | rfl <;> decide
  refine (power_form a b (by omega) (by omega) _).2 ⟨c, s, wo 95 R, ?_, hc, hs, wo_row 10 (by omega) R hR⟩
  rw [wo_cons c _ hc95, wo_app]
  congr 2
  rcases hs with rfl | rfl | rfl <;> rfl
theorem wo_mem (x : UInt8) (A : List UInt8) (h : x ∉ A) : x ∉ wo 95 A := fun hx => h (List.mem_filter.1 hx).1
theorem wo_hf (u : Bool) (t : List UInt8) (h : HF u t) : HF false (wo 95 t) := by
  rcases h with ⟨A, B, Y, rfl, hA, hD, hY⟩ | ⟨A, Y, rfl, hA, hY⟩
  · refine .inl ⟨wo 95 A, wo 95 B, wo 95 Y, ?_, wo_mem 46 A hA, ?_, wo_pow 112 80 (.inr ⟨rfl, rfl⟩) Y hY⟩
    · rw [wo_app, wo_cons 46 _ (by decide), wo_app]
    · rcases wo_dd (by omega) hD.dd with h | h
      · exact .inl h
      · exact .inr ⟨rfl, h⟩
  · exact .inr ⟨wo 95 A, wo 95 Y, by rw [wo_app], wo_row 16 (by omega) A hA, wo_pow 112 80 (.inr ⟨rfl, rfl⟩) Y hY⟩
theorem wo_nous (l r : List UInt8) : wo 95 l ≠ 95 :: r := by
  intro e
  have : (95 : UInt8) ∈ wo 95 l := by rw [e]; simp
  simp [wo] at this
theorem wo_hex (r : List UInt8) (h : hexfl r = true) : hexfl (wo 95 r) = true := by
  rw [hex_no _ (wo_nous r)]
  rcases (hex_form r).1 h with ⟨h', _⟩ | ⟨t, rfl, h'⟩
  · exact wo_hf _ _ h'
  · rw [wo_us]; exact wo_hf _ _ h'
theorem wo_int (l : List UInt8) (h : intR l = true) : intR (wo 95 l) = true := by
  rcases (int_form l).1 h with (rfl | ⟨h', h48⟩ | ⟨t, rfl, h'⟩) | ⟨c, r, b, rfl, hb, h'⟩
  · exact h
  · refine (int_form _).2 (.inl (.inr (.inl ⟨wo_row 10 (by omega) l h', ?_⟩)))
    obtain ⟨c, r, rfl, hc⟩ := row_head 10 l h'
    have hc95 : c ≠ 95 := by rintro rfl; revert hc; decide
    rw [wo_cons c r hc95]
    intro r' e; simp only [List.cons.injEq] at e; exact h48 r (by rw [e.1])
  · refine (int_form _).2 (.inl (.inr (.inr ⟨wo 95 t, wo_cons 48 t (by decide), under_of_row 8 (by omega) _ (wo_under 8 (by omega) t h')⟩)))
  · have hb16 : b ≤ 16 := by rcases hb with ⟨rfl, _⟩ | ⟨rfl, _⟩ | ⟨rfl, _⟩ <;> omega
    have hc95 : c ≠ 95 := by rcases hb with ⟨_, rfl | rfl⟩ | ⟨_, rfl | rfl⟩ | ⟨_, rfl | rfl⟩ <;> decide
    exact (int_form _).2 (.inr ⟨c, wo 95 r, b, by rw [wo_cons 48 _ (by decide), wo_cons c r hc95], hb, under_of_row b hb16 _ (wo_under b hb16 r h')⟩)
theorem wo_float (l : List UInt8) (h : floatR l = true) : floatR (wo 95 l) = true := by
  rcases (float_form l).1 h with ⟨hx, h⟩ | ⟨c, r, rfl, hc, h⟩
  · have hf : float10 (wo 95 l) = true := by
      rw [float10_iff] at h ⊢
      rcases h with ⟨A, B, Y, rfl, hA, hD, hY⟩ | ⟨A, Y, rfl, hA, hY⟩
      · refine .inl ⟨wo 95 A, wo 95 B, wo 95 Y, by rw [wo_app, wo_cons 46 _ (by decide), wo_app], wo_mem 46 A hA, wo_dd (by omega) hD, ?_⟩
        rcases hY with rfl | hY
        · exact .inl rfl
        · exact .inr (wo_pow 101 69 (.inl ⟨rfl, rfl⟩) Y hY)
      · exact .inr ⟨wo 95 A, wo 95 Y, by rw [wo_app], wo_row 10 (by omega) A hA, wo_pow 101 69 (.inl ⟨rfl, rfl⟩) Y hY⟩
    refine (float_form _).2 (.inl ⟨?_, hf⟩)
    rw [Bool.eq_false_iff]; intro hx2
    obtain ⟨c, r, e, hc⟩ := (headX _).1 hx2
    rw [e, (not10_of_x c r hc).2] at hf; cases hf
  · have hc95 : c ≠ 95 := by rcases hc with rfl | rfl <;> decide
    exact (float_form _).2 (.inr ⟨c, wo 95 r, by rw [wo_cons 48 _ (by decide), wo_cons c r hc95], hc, wo_hex r h⟩)
/-- NumberUnder -/
theorem under_law (l : List UInt8) (h : kindR l ≠ 0) : kindR (wo 95 l) = kindR l := by
  rcases kind_form l with ⟨h1, h2⟩ | ⟨h1, h2, _⟩ | ⟨h1, t, rfl, ht, h2⟩ | ⟨h1, _⟩
  · have hw := wo_int l h2
    rw [h1]; unfold kindR; rw [if_pos hw]
  · have hw := wo_float l h2
    rw [h1]; unfold kindR; rw [if_neg (by rw [excl _ hw]; decide), if_pos hw]
  · rw [h1, wo_app, show wo 95 [105] = [105] from rfl, kind_i, if_pos]
    have hor : intR (wo 95 t) = true ∨ floatR (wo 95 t) = true ∨ rowR 10 (wo 95 t) = true := by
      rcases h2 with h2 | h2 | h2
      · exact .inl (wo_int t h2)
      · exact .inr (.inl (wo_float t h2))
      · exact .inr (.inr (wo_row 10 (by omega) t h2))
    refine ⟨?_, hor⟩
    rintro e; rw [e] at hor; revert hor; decide
  · exact absurd h1 h
end Go.Proofs.Ytdebafbhphobcaa
