import Derived.Test.YtgmkokophcmbnaaW2
namespace Go.Proofs.Ytgmkokophcmbnaa
open Go.RowKit

def wordsR : List (List UInt8 × Int) :=
  [([38, 38], 2), ([61, 61], 3), ([33, 61], 3), ([60], 3), ([60, 61], 3), ([62], 3), ([62, 61], 3), ([43], 4), ([45], 4), ([124], 4), ([94], 4), ([42], 5), ([47], 5), ([37], 5), ([60, 60], 5), ([62, 62], 5), ([38], 5), ([38, 94], 5)]
def levR (k : UInt8) (w : List UInt8) : Int := if k = 36 ∨ k = 35 then 6 else if k = 37 then (wordsR.lookup w).getD 1 else 7

theorem tok : ∀ (w t : List UInt8), (w ++ [32]).isPrefixOf t = true → (32 : UInt8) ∉ w → t.takeWhile (· != 32) = w
  | [], t, h, _ => by
    cases t with
    | nil => simp at h
    | cons c r => simp only [List.nil_append, List.isPrefixOf, Bool.and_true, beq_iff_eq] at h; simp [← h]
  | b :: w, t, h, hw => by
    cases t with
    | nil => simp at h
    | cons c r =>
      simp only [List.cons_append, List.isPrefixOf, Bool.and_eq_true, beq_iff_eq] at h
      have hb : b ≠ 32 := fun e => hw (by rw [e]; simp)
      have := tok w r h.2 (fun e => hw (by simp [e]))
      rw [← h.1, List.takeWhile_cons, if_pos (by simpa using hb), this]
def toks (s : List UInt8) : List (List UInt8) := ((List.range (s.length + 1)).filter (fun j => (s.drop j).head? == some 32)).map (fun j => (s.drop (j + 1)).takeWhile (· != 32))
theorem no_byte (w : List UInt8) (c : UInt8) (h : ¬ (0 ≤ Lib.indexByte w c)) : c ∉ w := by
  induction w with
  | nil => simp
  | cons b l ih =>
    unfold Lib.indexByte at h
    split at h
    · omega
    · rename_i hb
      split at h
      · rename_i h1
        simp only [beq_iff_eq] at h1
        have := ih (by omega)
        simp only [beq_iff_eq] at hb
        simp only [List.mem_cons, not_or]; exact ⟨fun e => hb e.symm, this⟩
      · rename_i h1
        simp only [beq_iff_eq] at h1
        have := Lib.indexByte_ge l c
        omega
theorem hit_tok (w : List UInt8) (i : Nat) (h : hitB w i = true) : w ∈ toks (wordsOf i) ∧ w ≠ [] := by
  simp only [hitB, Bool.and_eq_true, decide_eq_true_eq, Bool.not_eq_true', decide_eq_false_iff_not] at h
  obtain ⟨⟨h1, h2⟩, h3⟩ := h
  refine ⟨?_, h1⟩
  simp only [Lib.contains, decide_eq_true_eq] at h3
  rcases Lib.index_spec (wordsOf i) (32 :: (w ++ [32])) with ⟨h4, _⟩ | ⟨j, h4, h5, h6, _⟩
  · omega
  · simp only [toks, List.mem_map, List.mem_filter, List.mem_range]
    unfold Lib.occAt at h6
    cases hd : (wordsOf i).drop j with
    | nil => rw [hd] at h6; simp at h6
    | cons c r =>
      rw [hd] at h6
      simp only [List.isPrefixOf, Bool.and_eq_true, beq_iff_eq] at h6
      refine ⟨j, ⟨by omega, by rw [hd, ← h6.1]; rfl⟩, ?_⟩
      have hr : (wordsOf i).drop (j + 1) = r := by
        have : (wordsOf i).drop (j + 1) = ((wordsOf i).drop j).drop 1 := by rw [List.drop_drop]
        rw [this, hd]; rfl
      rw [hr]
      exact tok w r h6.2 (no_byte w 32 h2)
theorem toks_in : ∀ i, i < 5 → ∀ w ∈ toks (wordsOf i), w ≠ [] → w ∈ [124, 124] :: wordsR.map Prod.fst := by
  intro i hi
  rcases (show i = 0 ∨ i = 1 ∨ i = 2 ∨ i = 3 ∨ i = 4 from by omega) with rfl | rfl | rfl | rfl | rfl <;> decide
theorem levB_no (w : List UInt8) (h : w ∉ [124, 124] :: wordsR.map Prod.fst) : ∀ f i, f + i ≤ 5 → levB w f i = 1 := by
  intro f
  induction f with
  | zero => intro i _; rfl
  | succ f ih =>
    intro i hi
    have hh : hitB w i = false := by
      cases hb : hitB w i
      · rfl
      · obtain ⟨h1, h2⟩ := hit_tok w i hb
        exact absurd (toks_in i (by omega) w h1 h2) h
    rw [levB, hh]; exact ih (i + 1) (by omega)
theorem lookup_no (w : List UInt8) : ∀ l : List (List UInt8 × Int), w ∉ l.map Prod.fst → l.lookup w = none
  | [], _ => rfl
  | (a, b) :: l, h => by
    simp only [List.map_cons, List.mem_cons, not_or] at h
    rw [List.lookup_cons, show (w == a) = false from by simpa using h.1]
    exact lookup_no w l h.2
theorem lev_words : ∀ w ∈ [124, 124] :: wordsR.map Prod.fst, levB w 5 0 = (wordsR.lookup w).getD 1 := by decide
theorem lev_eq (k : UInt8) (w : List UInt8) : levL k w = levR k w := by
  have e36 : ((k.toNat : Int) = 36) ↔ k = 36 := u8n k 36 (by decide)
  have e35 : ((k.toNat : Int) = 35) ↔ k = 35 := u8n k 35 (by decide)
  have e37 : ((k.toNat : Int) = 37) ↔ k = 37 := u8n k 37 (by decide)
  have hb : levB w 5 0 = (wordsR.lookup w).getD 1 := by
    by_cases hw : w ∈ [124, 124] :: wordsR.map Prod.fst
    · exact lev_words w hw
    · rw [levB_no w hw 5 0 (by omega), lookup_no w wordsR (fun h => hw (List.mem_cons_of_mem _ h))]; rfl
  simp only [levL, levR, e36, e35, e37, hb]
end Go.Proofs.Ytgmkokophcmbnaa
