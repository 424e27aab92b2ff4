import Derived.Test.YtdebafbhphobcaaP4
namespace Go.Proofs.Ytdebafbhphobcaa
open Go.RowKit

def hexfl (l : List UInt8) : Bool := anyF (hexF l) l.length 0
theorem hexfl_iff (l : List UInt8) : hexfl l = true ↔ ∃ X Y, l = X ++ Y ∧ powerR 112 80 Y = true ∧ (pointR 16 true X = true ∨ underR 16 X = true) := by
  have h1 := any_split l (powerR 112 80) (fun X => pointR 16 true X || underR 16 X)
  have h2 : (fun i => powerR 112 80 (l.drop i) && (fun X => pointR 16 true X || underR 16 X) (l.take i)) = hexF l := rfl
  rw [h2] at h1
  unfold hexfl
  rw [h1]
  simp only [Bool.or_eq_true]
def HH (u : Bool) (A B : List UInt8) : Prop := (rowR 16 A = true ∧ (B = [] ∨ rowR 16 B = true)) ∨ (u = false ∧ A = [] ∧ rowR 16 B = true)
theorem HH.dd {u : Bool} {A B : List UInt8} (h : HH u A B) : DD 16 A B := by
  rcases h with h | h
  · exact .inl h
  · exact .inr h.2
/-- the forms behind 0x, without the first underscore -/
def HF (u : Bool) (t : List UInt8) : Prop :=
  (∃ A B Y, t = A ++ 46 :: (B ++ Y) ∧ (46 : UInt8) ∉ A ∧ HH u A B ∧ powerR 112 80 Y = true) ∨ (∃ A Y, t = A ++ Y ∧ rowR 16 A = true ∧ powerR 112 80 Y = true)
theorem six_float (u : Bool) (t : List UInt8) : (HF u t ↔ sixT u t = 4) ∧ (sixT u t = 4 ∨ sixT u t = 0) := by
  have S := SysP
  constructor
  · constructor
    · rintro (⟨A, B, Y, e, hA, h, hY⟩ | ⟨A, Y, e, h, hY⟩)
      · obtain ⟨e1, e2, e3, e4, e5, e6⟩ := S.dot_fwd h.dd (.inr hY) t e
        have := (h.dd.full S.hb).2.2
        have hY0 : 0 < Y.length := List.length_pos_iff.2 ((powP Y).1 hY).1
        have hu : ¬ (rowL 16 t = 0 ∧ u = true) := by
          rintro ⟨h1, h2⟩
          rcases h with h | h
          · have := rowR_pos 16 A h.1; omega
          · rw [h2] at h; cases h.1
        unfold sixT endP
        rw [if_neg hu, if_pos ⟨e2, e3⟩, if_neg (by omega), if_pos (by rw [e5]; omega)]
      · obtain ⟨e1, e2, e3, e4, e5⟩ := S.no_fwd h (.inr hY) t e
        have hY0 : 0 < Y.length := List.length_pos_iff.2 ((powP Y).1 hY).1
        unfold sixT endP
        rw [if_neg (by omega), if_neg e3, if_neg (by omega), if_pos (by simp only [Nat.add_zero]; rw [e4]; omega)]
    · intro h
      unfold sixT endP at h
      by_cases hu : rowL 16 t = 0 ∧ u = true
      · rw [if_pos hu] at h; cases h
      rw [if_neg hu] at h
      by_cases hd : rowL 16 t < t.length ∧ bat t (rowL 16 t) = 46
      · rw [if_pos hd] at h
        by_cases h0 : rowL 16 t + rowL 16 (t.drop (rowL 16 t + 1)) = 0
        · rw [if_pos h0] at h; cases h
        · rw [if_neg h0] at h
          split at h
          · rename_i hc
            obtain ⟨A, B, Y, e, hD, hY, hl⟩ := S.dot_bwd t hd.1 hd.2 h0 hc.2
            have hY' : powerR 112 80 Y = true := hY.resolve_left (by intro e0; rw [e0] at hl; simp at hl; omega)
            refine .inl ⟨A, B, Y, e, row_no46 S.dot (hD.full S.hb).1, ?_, hY'⟩
            rcases hD with hD | hD
            · exact .inl hD
            · refine .inr ⟨?_, hD⟩
              have := (S.dot_fwd (.inr hD) hY t e).1
              rw [hD.1] at this
              cases u with
              | false => rfl
              | true => exact absurd ⟨this, rfl⟩ hu
          · cases h
      · rw [if_neg hd] at h
        by_cases h0 : rowL 16 t = 0
        · rw [if_pos h0] at h; cases h
        rw [if_neg h0] at h
        split at h
        · rename_i hc
          simp only [Nat.add_zero, Nat.zero_add] at hc
          obtain ⟨A, Y, e, hA, hY, hl⟩ := S.no_bwd t (by omega) hc.2
          refine .inr ⟨A, Y, e, hA, hY.resolve_left ?_⟩
          intro e0; rw [e0] at hl; simp at hl; omega
        · cases h
  · unfold sixT endP
    repeat' split
    all_goals simp
theorem parts_true (A B : List UInt8) (h : ∀ r, A ≠ 95 :: r) : partsR 16 true A B = true ↔ HH false A B := by
  unfold partsR HH; rw [under_no 16 A h]; simp
theorem parts_us (A B : List UInt8) : partsR 16 true (95 :: A) B = true ↔ HH true A B := by
  have h0 : rowR 16 (95 :: A) = false := by simp [rowR, dg_us 16 (by omega)]
  unfold partsR HH; rw [under_us 16 (by omega), h0]; simp
theorem hex_no (l : List UInt8) (h : ∀ r, l ≠ 95 :: r) : hexfl l = true ↔ HF false l := by
  rw [hexfl_iff]
  have hpre : ∀ X Y, l = X ++ Y → (∀ r, X ≠ 95 :: r) := by
    intro X Y e r e2; exact h (r ++ Y) (by rw [e, e2]; rfl)
  constructor
  · rintro ⟨X, Y, e, hY, hX | hX⟩
    · obtain ⟨A, B, e2, hA, hp⟩ := (point_iff 16 true X).1 hX
      refine .inl ⟨A, B, Y, by rw [e, e2]; simp, hA, (parts_true A B ?_).1 hp, hY⟩
      intro r e3; exact hpre X Y e (r ++ 46 :: B) (by rw [e2, e3]; rfl)
    · exact .inr ⟨X, Y, e, by rw [← under_no 16 X (hpre X Y e)]; exact hX, hY⟩
  · rintro (⟨A, B, Y, e, hA, hp, hY⟩ | ⟨A, Y, e, hA, hY⟩)
    · refine ⟨A ++ 46 :: B, Y, by rw [e]; simp, hY, .inl ((point_iff 16 true _).2 ⟨A, B, rfl, hA, (parts_true A B ?_).2 hp⟩)⟩
      intro r e3; exact h (r ++ 46 :: (B ++ Y)) (by rw [e, e3]; rfl)
    · exact ⟨A, Y, e, hY, .inr (by rw [under_no 16 A (hpre A Y e)]; exact hA)⟩
theorem hex_us (t : List UInt8) : hexfl (95 :: t) = true ↔ HF true t := by
  rw [hexfl_iff]
  constructor
  · rintro ⟨X, Y, e, hY, hX⟩
    match X, e, hX with
    | [], e, hX => rcases hX with hX | hX <;> simp [pointR, dotI, runF, underR, rowR] at hX
    | x :: X', e, hX =>
      simp only [List.cons_append, List.cons.injEq] at e
      obtain ⟨rfl, e⟩ := e
      rcases hX with hX | hX
      · obtain ⟨A, B, e2, hA, hp⟩ := (point_iff 16 true _).1 hX
        match A, e2, hA, hp with
        | [], e2, _, _ => simp at e2
        | a :: A', e2, hA, hp =>
          simp only [List.cons_append, List.cons.injEq] at e2
          obtain ⟨rfl, e2⟩ := e2
          exact .inl ⟨A', B, Y, by rw [e, e2]; simp, fun hm => hA (List.mem_cons_of_mem _ hm), (parts_us A' B).1 hp, hY⟩
      · exact .inr ⟨X', Y, e, by rw [← under_us 16 (by omega)]; exact hX, hY⟩
  · rintro (⟨A, B, Y, e, hA, hp, hY⟩ | ⟨A, Y, e, hA, hY⟩)
    · refine ⟨95 :: (A ++ 46 :: B), Y, by rw [e]; simp, hY, .inl ((point_iff 16 true _).2 ⟨95 :: A, B, rfl, ?_, (parts_us A B).2 hp⟩)⟩
      intro hm; rcases List.mem_cons.1 hm with hm | hm
      · cases hm
      · exact hA hm
    · exact ⟨95 :: A, Y, by rw [e]; rfl, hY, .inr (by rw [under_us 16 (by omega)]; exact hA)⟩
theorem six_eq (l : List UInt8) : sixL l = if underR 16 l = true then 3 else if hexfl l = true then 4 else 0 := by
  unfold sixL
  rw [whole_eq 16 (by omega)]
  by_cases hu : underR 16 l = true
  · simp [hu]
  · rw [if_neg hu, if_neg hu]
    simp only [ne_eq, not_true_eq_false, if_false]
    have key : hexfl l = true ↔ HF (Lib.hasPrefix l [95]) (Lib.trimPrefix l [95]) := by
      rcases us_or l with ⟨r, rfl⟩ | h
      · rw [trim_us, show Lib.hasPrefix (95 :: r) [95] = true from by simp [Lib.hasPrefix, List.isPrefixOf]]; exact hex_us r
      · rw [(trim_no l h).1, (trim_no l h).2]; exact hex_no l h
    obtain ⟨h1, h2⟩ := six_float (Lib.hasPrefix l [95]) (Lib.trimPrefix l [95])
    rcases h2 with h2 | h2
    · rw [if_pos (key.2 (h1.2 h2)), h2]
    · rw [if_neg (by rw [key, h1, h2]; decide), h2]

theorem int_eq (l : List UInt8) : intR l = (int10 l || (headedR 98 66 l && underR 2 (l.drop 2)) || (!headedR 98 66 l && ((headedR 111 79 l && underR 8 (l.drop 2)) || (!headedR 111 79 l && headedR 120 88 l && underR 16 (l.drop 2))))) := by
  unfold intR int10; simp only [Bool.or_assoc]
theorem float_eq (l : List UInt8) : floatR l = if headedR 120 88 l = true then hexfl (l.drop 2) else float10 l := by
  unfold floatR hexfl float10; simp only [List.length_drop]
theorem headed_cons (a b : Int) (z c : UInt8) (r : List UInt8) : headedR a b (z :: c :: r) = (decide ((z.toNat : Int) = 48) && (decide ((c.toNat : Int) = a) || decide ((c.toNat : Int) = b))) := by
  simp [headedR, bat]
theorem headed_no (a b : Int) (l : List UInt8) (h : ∀ z c r, l ≠ z :: c :: r) : headedR a b l = false := by
  match l, h with
  | [], _ => simp [headedR]
  | [z], _ => simp [headedR]
  | z :: c :: r, h => exact absurd rfl (h z c r)
theorem ten_zero (c : UInt8) (r : List UInt8) (hc : dg 10 c = false) (h95 : c ≠ 95) (h46 : c ≠ 46) (hE : powerL [101, 69] (c :: r) = 0) : tenL (48 :: c :: r) = 0 := by
  have h48 : dg 10 48 = true := by decide
  have h1 : rowL 10 (48 :: c :: r) = 1 := by
    simp [rowL, h48, tailL_cons, hc, h95]
  unfold tenL endL
  rw [h1]
  have h2 : ¬ (bat (48 :: c :: r) 1 = 46) := by simp only [bat, List.getElem?_cons_succ, List.getElem?_cons_zero, Option.getD_some, i46]; exact h46
  simp [h2, hE]
theorem pow_no (c : UInt8) (r : List UInt8) (h : ¬ ((c.toNat : Int) = (101 : Nat) ∨ (c.toNat : Int) = (69 : Nat))) : powerL [101, 69] (c :: r) = 0 := by
  simp only [powerL]; rw [if_pos ((ixE c).2 h)]
theorem real_eq (l : List UInt8) : realL l = if intR l = true then 3 else if floatR l = true then 4 else 0 := by
  rw [int_eq, float_eq]
  match l with
  | [] => rw [headed_no _ _ [] (by simp), headed_no _ _ [] (by simp), headed_no _ _ [] (by simp)]; simp [realL, ten_eq]
  | [z] => rw [headed_no _ _ [z] (by simp), headed_no _ _ [z] (by simp), headed_no _ _ [z] (by simp)]; simp [realL, ten_eq]
  | z :: c :: r =>
    simp only [headed_cons, realL, List.drop_succ_cons, List.drop_zero]
    by_cases hz : (z.toNat : Int) = 48
    · have hz' : z = 48 := (i48 z).1 hz
      subst hz'
      have special : ∀ n : Nat, n < 256 → (c.toNat : Int) = n → dg 10 (UInt8.ofNat n) = false → UInt8.ofNat n ≠ 95 → UInt8.ofNat n ≠ 46 → n ≠ 101 → n ≠ 69 → int10 (48 :: c :: r) = false ∧ float10 (48 :: c :: r) = false := by
        intro n hn hc h1 h2 h3 h4 h5
        have hcn := (u8n c n hn).1 hc
        have h0 := ten_zero c r (by rw [hcn]; exact h1) (by rw [hcn]; exact h2) (by rw [hcn]; exact h3) (pow_no c r (by omega))
        rw [ten_eq] at h0
        cases hi : int10 (48 :: c :: r)
        · cases hf : float10 (48 :: c :: r)
          · exact ⟨rfl, rfl⟩
          · rw [hi, hf] at h0; simp at h0
        · rw [hi] at h0; simp at h0
      rw [if_pos hz]
      simp only [hz, decide_true, Bool.true_and]
      by_cases hb : (c.toNat : Int) = 98 ∨ (c.toNat : Int) = 66
      · have hsp : int10 (48 :: c :: r) = false ∧ float10 (48 :: c :: r) = false := by
          rcases hb with h | h
          · exact special 98 (by decide) h (by decide) (by decide) (by decide) (by decide) (by decide)
          · exact special 66 (by decide) h (by decide) (by decide) (by decide) (by decide) (by decide)
        have hx : ¬ ((c.toNat : Int) = 120) ∧ ¬ ((c.toNat : Int) = 88) := by omega
        have hb' : (decide ((c.toNat : Int) = 98) || decide ((c.toNat : Int) = 66)) = true := by simpa using hb
        rw [if_pos hb, whole_eq 2 (by omega), hsp.1, hsp.2, hb']
        simp [hx.1, hx.2]
      · have hb' : (decide ((c.toNat : Int) = 98) || decide ((c.toNat : Int) = 66)) = false := by simp; omega
        rw [if_neg hb, hb']
        by_cases ho : (c.toNat : Int) = 111 ∨ (c.toNat : Int) = 79
        · have hsp : int10 (48 :: c :: r) = false ∧ float10 (48 :: c :: r) = false := by
            rcases ho with h | h
            · exact special 111 (by decide) h (by decide) (by decide) (by decide) (by decide) (by decide)
            · exact special 79 (by decide) h (by decide) (by decide) (by decide) (by decide) (by decide)
          have hx : ¬ ((c.toNat : Int) = 120) ∧ ¬ ((c.toNat : Int) = 88) := by omega
          have ho' : (decide ((c.toNat : Int) = 111) || decide ((c.toNat : Int) = 79)) = true := by simpa using ho
          rw [if_pos ho, whole_eq 8 (by omega), hsp.1, hsp.2, ho']
          simp [hx.1, hx.2]
        · have ho' : (decide ((c.toNat : Int) = 111) || decide ((c.toNat : Int) = 79)) = false := by simp; omega
          rw [if_neg ho, ho']
          by_cases hx : (c.toNat : Int) = 120 ∨ (c.toNat : Int) = 88
          · have hsp : int10 (48 :: c :: r) = false ∧ float10 (48 :: c :: r) = false := by
              rcases hx with h | h
              · exact special 120 (by decide) h (by decide) (by decide) (by decide) (by decide) (by decide)
              · exact special 88 (by decide) h (by decide) (by decide) (by decide) (by decide) (by decide)
            have hx' : (decide ((c.toNat : Int) = 120) || decide ((c.toNat : Int) = 88)) = true := by simpa using hx
            rw [if_pos hx, six_eq, hsp.1, hx']
            simp
          · have hx' : (decide ((c.toNat : Int) = 120) || decide ((c.toNat : Int) = 88)) = false := by simp; omega
            rw [if_neg hx, hx', ten_eq]; simp
    · rw [if_neg hz, ten_eq]; simp [hz]
theorem suf_iff (l : List UInt8) : Lib.hasSuffix l [105] = true ↔ 1 ≤ l.length ∧ bat l (l.length - 1) = 105 := by
  unfold Lib.hasSuffix
  rw [List.isSuffixOf_iff_suffix]
  constructor
  · rintro ⟨t, rfl⟩; simp [bat]
  · rintro ⟨h1, h2⟩
    have hl : l ≠ [] := List.length_pos_iff.1 h1
    refine ⟨l.dropLast, ?_⟩
    have h3 : l[l.length - 1] = 105 := by
      have e : bat l (l.length - 1) = (l[l.length - 1].toNat : Int) := by unfold bat; rw [List.getElem?_eq_getElem (by omega)]; rfl
      rw [e] at h2; exact (u8n _ 105 (by decide)).1 h2
    have := List.dropLast_concat_getLast hl
    rw [List.getLast_eq_getElem, h3] at this; exact this
theorem kind_eq (l : List UInt8) : kindL l = kindR l := by
  unfold kindL kindR
  have hr := real_eq l
  by_cases hi : intR l = true
  · rw [if_pos hi] at hr ⊢; rw [hr]; simp
  rw [if_neg hi] at hr ⊢
  by_cases hf : floatR l = true
  · rw [if_pos hf] at hr ⊢; rw [hr]; simp
  rw [if_neg hf] at hr ⊢
  rw [hr]; simp only [ne_eq, not_true_eq_false, if_false]
  generalize ht : l.take (l.length - 1) = t
  have hlt : t.length = l.length - 1 := by rw [← ht, List.length_take]; omega
  have h0 := real_eq t
  have hreal : ¬ realL t = 0 ↔ (intR t = true ∨ floatR t = true) := by
    rw [h0]
    by_cases a : intR t = true
    · simp [a]
    · by_cases b : floatR t = true <;> simp [a, b]
  have hrow := rowR_iff 10 (by omega) t
  by_cases hs : Lib.hasSuffix l [105] = true
  · rw [if_pos hs]
    have := (suf_iff l).1 hs
    by_cases h1 : 1 < l.length
    · have hiff : (¬ realL t = 0 ∨ ¬ t = [] ∧ rowL 10 t = t.length) ↔ (1 < l.length ∧ bat l (l.length - 1) = 105 ∧ (intR t = true ∨ floatR t = true ∨ rowR 10 t = true)) := by
        rw [hreal, hrow]
        constructor
        · rintro ((h | h) | h)
          · exact ⟨h1, this.2, .inl h⟩
          · exact ⟨h1, this.2, .inr (.inl h)⟩
          · exact ⟨h1, this.2, .inr (.inr h)⟩
        · rintro ⟨_, _, h | h | h⟩
          · exact .inl (.inl h)
          · exact .inl (.inr h)
          · exact .inr h
      by_cases hc : (¬ realL t = 0 ∨ ¬ t = [] ∧ rowL 10 t = t.length)
      · rw [if_pos hc, if_pos (hiff.1 hc)]
      · rw [if_neg hc, if_neg (fun h => hc (hiff.2 h))]
    · have ht0 : t = [] := List.length_eq_zero_iff.1 (by omega)
      subst ht0
      rw [if_neg (by rintro (h | h); exact h (by decide); exact h.1 rfl), if_neg (by omega)]
  · rw [if_neg hs, if_neg ?_]
    rintro ⟨h1, h2, _⟩; exact hs ((suf_iff l).2 ⟨by omega, h2⟩)
end Go.Proofs.Ytdebafbhphobcaa
