import Derived.Test.YtgmkokophcmbnaaW1
namespace Go.Proofs.Ytgmkokophcmbnaa
open Go.RowKit

theorem u8n (x : UInt8) (n : Nat) (h : n < 256) : ((x.toNat : Int) = (n : Int)) ↔ x = UInt8.ofNat n := by
  constructor
  · intro e; apply UInt8.toNat_inj.1; rw [UInt8.toNat_ofNat']; have : x.toNat = n := by omega
    rw [this, Nat.mod_eq_of_lt h]
  · intro e; rw [e, UInt8.toNat_ofNat', Nat.mod_eq_of_lt h]
def leastL (k : UInt8) (w : List UInt8) (nth : Int) : Int :=
  if k = 37 then (if nth = 0 then levL k w else if nth = 1 then levL k w + 1 else 0)
  else if k = 36 ∨ k = 35 then 6
  else if k = 29 ∨ k = 30 ∨ k = 31 ∨ k = 32 ∨ k = 33 ∨ k = 34 then (if nth = 0 then 7 else 0)
  else if k = 61 then (if nth = 2 then 7 else 0) else 0
theorem levB_bd (w : List UInt8) : ∀ f i, f + i ≤ 5 → 1 ≤ levB w f i ∧ levB w f i ≤ 6 := by
  intro f
  induction f with
  | zero => intro i _; simp [levB]
  | succ f ih =>
    intro i h; rw [levB]; split
    · omega
    · exact ih (i + 1) (by omega)
theorem lev_bd (k : UInt8) (w : List UInt8) : 1 ≤ levL k w ∧ levL k w ≤ 7 := by
  unfold levL; have := levB_bd w 5 0 (by omega); split
  · omega
  · split <;> omega
theorem level_b (p : Pt) (m : Int) (w : World) (hw : p.w.length ≤ 1125899906842624) (hm : w.cell? ⟨0, 0, none⟩ = some (.int .i64 m)) :
    Calls Try.prog 8 #[.agg #[.int .u8 p.k.toNat, .int .i64 p.n, .string ⟨p.w.toArray⟩]] w fun e w' => e = .returned (.int .i64 (levL p.k p.w)) ∧ (1 ≤ levL p.k p.w ∧ levL p.k p.w ≤ 7) ∧ Below w.heap.size w w' :=
  (level_any p m w hw hm).mono fun _ _ ⟨h1, h2⟩ => ⟨h1, lev_bd _ _, h2⟩

set_option maxHeartbeats 2000000 in
theorem least_any (p : Pt) (nth m : Int) (w : World) (hw : p.w.length ≤ 1125899906842624) (hm : w.cell? ⟨0, 0, none⟩ = some (.int .i64 m)) :
    Calls Try.prog 29 #[.agg #[.int .u8 p.k.toNat, .int .i64 p.n, .string ⟨p.w.toArray⟩], .int .i64 nth] w fun e w' => e = .returned (.int .i64 (leastL p.k p.w nth)) ∧ Below w.heap.size w w' := by
  obtain ⟨k, n, l⟩ := p
  simp only [] at hw
  have hb : Below w.heap.size w (w.alloc (Obj.cells #[.int .u8 k.toNat, .int .i64 n, .string ⟨l.toArray⟩] 23)) := (Below.refl _ _).alloc (Nat.le_refl _) _
  have h0 : 0 < w.heap.size := by
    rcases Nat.eq_zero_or_pos w.heap.size with h | h
    · simp [World.cell?, Array.getElem?_eq_none (show w.heap.size ≤ 0 by omega)] at hm
    · exact h
  have hm1 : (w.alloc (Obj.cells #[.int .u8 k.toNat, .int .i64 n, .string ⟨l.toArray⟩] 23)).cell? ⟨0, 0, none⟩ = some (.int .i64 m) := by
    rw [hb.cell h0]; exact hm
  have hlev := level_b ⟨k, n, l⟩ m (w.alloc (Obj.cells #[.int .u8 k.toNat, .int .i64 n, .string ⟨l.toArray⟩] 23)) hw hm1
  have HL := Lib.hid hlev
  clear hlev
  by_cases h37 : k = 37
  · subst h37
    by_cases n0 : nth = 0
    · subst n0
      go_enter Try.func29, Try.ntmps29
      go_wp2_with fail
      refine HL.out.mono ?_; rintro e w1 ⟨rfl, hbd, hn⟩
      go_wp2_with fail
      go_ret
      exact ⟨rfl, hb.trans (hn.mono (by simp))⟩
    have c0 : (nth == 0) = false := by simp [n0]
    by_cases n1 : nth = 1
    · subst n1
      go_enter Try.func29, Try.ntmps29
      go_wp2_with fail
      refine HL.out.mono ?_; rintro e w1 ⟨rfl, hbd, hn⟩
      obtain ⟨hb1, hb2⟩ := hbd
      go_wp2_with fail
      go_ret
      exact ⟨rfl, hb.trans (hn.mono (by simp))⟩
    · have c1 : (nth == 1) = false := by simp [n1]
      have hf : leastL 37 l nth = 0 := by simp [leastL, n0, n1]
      have HF := Lib.hid hf
      clear n0 n1 hf
      go_enter Try.func29, Try.ntmps29
      go_wp2_with fail
      go_ret
      exact ⟨ret_int (by rw [HF.out]), hb⟩
  by_cases hsp : k = 36 ∨ k = 35 ∨ k = 29 ∨ k = 30 ∨ k = 31 ∨ k = 32 ∨ k = 33 ∨ k = 34 ∨ k = 61
  · clear h37
    by_cases n0 : nth = 0
    · subst n0
      rcases hsp with rfl | rfl | rfl | rfl | rfl | rfl | rfl | rfl | rfl
      all_goals
        go_enter Try.func29, Try.ntmps29
        go_wp2_with fail
        go_ret
        exact ⟨rfl, hb⟩
    by_cases n2 : nth = 2
    · subst n2
      rcases hsp with rfl | rfl | rfl | rfl | rfl | rfl | rfl | rfl | rfl
      all_goals
        go_enter Try.func29, Try.ntmps29
        go_wp2_with fail
        go_ret
        exact ⟨rfl, hb⟩
    have c0 : (nth == 0) = false := by simp [n0]
    have c2 : (nth == 2) = false := by simp [n2]
    have hf : leastL k l nth = if k = 36 ∨ k = 35 then 6 else 0 := by
      rcases hsp with rfl | rfl | rfl | rfl | rfl | rfl | rfl | rfl | rfl <;> simp [leastL, n0, n2]
    have HF := Lib.hid hf
    clear n0 n2 hf
    rcases hsp with rfl | rfl | rfl | rfl | rfl | rfl | rfl | rfl | rfl
    all_goals
      go_enter Try.func29, Try.ntmps29
      go_wp2_with fail
      go_ret
      exact ⟨ret_int (by rw [HF.out]; rfl), hb⟩
  · have hf : leastL k l nth = 0 := by simp only [not_or] at hsp; simp [leastL, h37, hsp]
    have HF := Lib.hid hf
    have cs : ∀ n : Nat, n < 256 → k ≠ UInt8.ofNat n → ((k.toNat : Int) == (n : Int)) = false := by
      intro n hn hne; rw [beq_eq_false_iff_ne]; intro e; exact hne ((u8n k n hn).1 e)
    simp only [not_or] at hsp
    have d37 : ((k.toNat : Int) == 37) = false := cs 37 (by decide) h37
    have d36 : ((k.toNat : Int) == 36) = false := cs 36 (by decide) hsp.1
    have d35 : ((k.toNat : Int) == 35) = false := cs 35 (by decide) hsp.2.1
    have d29 : ((k.toNat : Int) == 29) = false := cs 29 (by decide) hsp.2.2.1
    have d30 : ((k.toNat : Int) == 30) = false := cs 30 (by decide) hsp.2.2.2.1
    have d31 : ((k.toNat : Int) == 31) = false := cs 31 (by decide) hsp.2.2.2.2.1
    have d32 : ((k.toNat : Int) == 32) = false := cs 32 (by decide) hsp.2.2.2.2.2.1
    have d33 : ((k.toNat : Int) == 33) = false := cs 33 (by decide) hsp.2.2.2.2.2.2.1
    have d34 : ((k.toNat : Int) == 34) = false := cs 34 (by decide) hsp.2.2.2.2.2.2.2.1
    have d61 : ((k.toNat : Int) == 61) = false := cs 61 (by decide) hsp.2.2.2.2.2.2.2.2
    clear hf cs hsp h37
    go_enter Try.func29, Try.ntmps29
    go_wp2_with fail
    go_ret
    exact ⟨ret_int (by rw [HF.out]), hb⟩
end Go.Proofs.Ytgmkokophcmbnaa
