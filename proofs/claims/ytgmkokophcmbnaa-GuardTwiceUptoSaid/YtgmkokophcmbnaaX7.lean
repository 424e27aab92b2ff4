import Derived.Test.YtgmkokophcmbnaaX6
namespace Go.Proofs.Ytgmkokophcmbnaa
open Go.RowKit

theorem no_loose (k2 : UInt8) (l2 : List UInt8) : decide (levL k2 l2 < 0) = false := decide_eq_false (by have := lev_bd k2 l2; omega)
set_option maxHeartbeats 4000000 in
theorem Loose_any (p q : Pt) (nth : Int) (w : World) :
    Calls Try.prog 22 #[.agg #[.int .u8 p.k.toNat, .int .i64 p.n, .string ⟨p.w.toArray⟩], .int .i64 nth, .agg #[.int .u8 q.k.toNat, .int .i64 q.n, .string ⟨q.w.toArray⟩]] w
      fun e w' => e = .returned (.bool (decide (levL q.k q.w < leastL p.k p.w nth))) ∧ Below w.heap.size w w' := by
  obtain ⟨k, n, l⟩ := p
  obtain ⟨k2, n2, l2⟩ := q
  simp only []
  by_cases h37 : k = 37 ∧ (nth = 0 ∨ nth = 1)
  · obtain ⟨rfl, hn⟩ := h37
    exact Loose_37 n n2 nth k2 l l2 w hn
  have HQ := Lib.hid (fun w => levelQ ⟨k2, n2, l2⟩ w)
  simp only [] at HQ
  have hb := ((Below.refl w.heap.size w).alloc (Nat.le_refl _) (Obj.cells #[.int .u8 k.toNat, .int .i64 n, .string ⟨l.toArray⟩] 23)).alloc (by simp) (Obj.cells #[.int .u8 k2.toNat, .int .i64 n2, .string ⟨l2.toArray⟩] 23)
  have hbx := heap_alloc_new w (Obj.cells #[.int .u8 k.toNat, .int .i64 n, .string ⟨l.toArray⟩] 23)
  have hB2 := (Below.refl (w.alloc (Obj.cells #[.int .u8 k.toNat, .int .i64 n, .string ⟨l.toArray⟩] 23)).heap.size (w.alloc (Obj.cells #[.int .u8 k.toNat, .int .i64 n, .string ⟨l.toArray⟩] 23))).alloc (Nat.le_refl _) (Obj.cells #[.int .u8 k2.toNat, .int .i64 n2, .string ⟨l2.toArray⟩] 23)
  have e0 : (w.alloc (Obj.cells #[.int .u8 k.toNat, .int .i64 n, .string ⟨l.toArray⟩] 23)).cell? ⟨w.heap.size, 0, none⟩ = some (.int .u8 k.toNat) := by rw [cell_of_some hbx]; rfl
  have HE := Lib.hid (keepCell hB2 e0)
  have HN := Lib.hid (no_loose k2 l2)
  clear hbx hB2 e0
  by_cases hsp : k = 37 ∨ k = 36 ∨ k = 35 ∨ k = 29 ∨ k = 30 ∨ k = 31 ∨ k = 32 ∨ k = 33 ∨ k = 34 ∨ k = 61
  · by_cases n0 : nth = 0
    · subst n0
      rcases hsp with rfl | rfl | rfl | rfl | rfl | rfl | rfl | rfl | rfl | rfl
      · exact absurd ⟨rfl, .inl rfl⟩ h37
      all_goals
        clear h37
        go_enter Try.func22, Try.ntmps22
        go_wp2_with fail
        refine (HQ.out _).mono ?_; rintro e w1 ⟨rfl, hb1⟩
        have e0 := keepCell hb1 HE.out
        have hb3 := bthen hb hb1
        clear HE hb hb1
        go_wp2_with fail
        go_ret
        exact ⟨ret_val (by first | rfl | (refine Eq.trans ?_ (congrArg Value.bool HN.out.symm); rfl)), hb3⟩
    by_cases n2' : nth = 2
    · subst n2'
      clear h37 n0
      rcases hsp with rfl | rfl | rfl | rfl | rfl | rfl | rfl | rfl | rfl | rfl
      all_goals
        go_enter Try.func22, Try.ntmps22
        go_wp2_with fail
        refine (HQ.out _).mono ?_; rintro e w1 ⟨rfl, hb1⟩
        have e0 := keepCell hb1 HE.out
        have hb3 := bthen hb hb1
        clear HE hb hb1
        go_wp2_with fail
        go_ret
        exact ⟨ret_val (by first | rfl | (refine Eq.trans ?_ (congrArg Value.bool HN.out.symm); rfl)), hb3⟩
    · have c0 : (nth == 0) = false := by simp [n0]
      have c2 : (nth == 2) = false := by simp [n2']
      have hf : leastL k l nth = if k = 36 ∨ k = 35 then 6 else 0 := by
        rcases hsp with rfl | rfl | rfl | rfl | rfl | rfl | rfl | rfl | rfl | rfl
        · have n1 : nth ≠ 1 := fun e => h37 ⟨rfl, .inr e⟩
          simp [leastL, n0, n1]
        all_goals simp [leastL, n0, n2']
      have HF := Lib.hid hf
      have c1 : k = 37 → (nth == 1) = false := fun e => by
        have n1 : nth ≠ 1 := fun e1 => h37 ⟨e, .inr e1⟩
        simp [n1]
      clear hf h37 n0 n2'
      rcases hsp with rfl | rfl | rfl | rfl | rfl | rfl | rfl | rfl | rfl | rfl
      all_goals
        try have c1 := c1 rfl
        go_enter Try.func22, Try.ntmps22
        go_wp2_with fail
        refine (HQ.out _).mono ?_; rintro e w1 ⟨rfl, hb1⟩
        have e0 := keepCell hb1 HE.out
        have hb3 := bthen hb hb1
        clear HE hb hb1
        go_wp2_with fail
        go_ret
        exact ⟨ret_val (by rw [HF.out]; first | rfl | (refine Eq.trans ?_ (congrArg Value.bool HN.out.symm); rfl)), hb3⟩
  · have hf : leastL k l nth = 0 := by simp only [not_or] at hsp; simp [leastL, hsp]
    have HF := Lib.hid hf
    have cs : ∀ n : Nat, n < 256 → k ≠ UInt8.ofNat n → ((k.toNat : Int) == (n : Int)) = false := by
      intro n hn hne; rw [beq_eq_false_iff_ne]; intro e; exact hne ((u8n k n hn).1 e)
    simp only [not_or] at hsp
    have d37 : ((k.toNat : Int) == 37) = false := cs 37 (by decide) hsp.1
    have d36 : ((k.toNat : Int) == 36) = false := cs 36 (by decide) hsp.2.1
    have d35 : ((k.toNat : Int) == 35) = false := cs 35 (by decide) hsp.2.2.1
    have d29 : ((k.toNat : Int) == 29) = false := cs 29 (by decide) hsp.2.2.2.1
    have d30 : ((k.toNat : Int) == 30) = false := cs 30 (by decide) hsp.2.2.2.2.1
    have d31 : ((k.toNat : Int) == 31) = false := cs 31 (by decide) hsp.2.2.2.2.2.1
    have d32 : ((k.toNat : Int) == 32) = false := cs 32 (by decide) hsp.2.2.2.2.2.2.1
    have d33 : ((k.toNat : Int) == 33) = false := cs 33 (by decide) hsp.2.2.2.2.2.2.2.1
    have d34 : ((k.toNat : Int) == 34) = false := cs 34 (by decide) hsp.2.2.2.2.2.2.2.2.1
    have d61 : ((k.toNat : Int) == 61) = false := cs 61 (by decide) hsp.2.2.2.2.2.2.2.2.2
    clear hf cs hsp h37
    go_enter Try.func22, Try.ntmps22
    go_wp2_with fail
    refine (HQ.out _).mono ?_; rintro e w1 ⟨rfl, hb1⟩
    have e0 := keepCell hb1 HE.out
    have hb3 := bthen hb hb1
    clear HE hb hb1
    go_wp2_with fail
    go_ret
    exact ⟨ret_val (by rw [HF.out]; refine Eq.trans ?_ (congrArg Value.bool HN.out.symm); rfl), hb3⟩
end Go.Proofs.Ytgmkokophcmbnaa
