import Derived.Test.YtgmkokophcmbnaaX5
namespace Go.Proofs.Ytgmkokophcmbnaa
open Go.RowKit

theorem levelQ (p : Pt) (w : World) :
    Calls Try.prog 9 #[.agg #[.int .u8 p.k.toNat, .int .i64 p.n, .string ⟨p.w.toArray⟩]] w fun e w' => e = .returned (.int .i64 (levL p.k p.w)) ∧ Below w.heap.size w w' := by
  rw [lev_eq]; exact levelR_any p w
set_option maxHeartbeats 4000000 in
theorem Loose_37 (n n2 nth : Int) (k2 : UInt8) (l l2 : List UInt8) (w : World) (hnth : nth = 0 ∨ nth = 1) :
    Calls Try.prog 22 #[.agg #[.int .u8 37, .int .i64 n, .string ⟨l.toArray⟩], .int .i64 nth, .agg #[.int .u8 k2.toNat, .int .i64 n2, .string ⟨l2.toArray⟩]] w
      fun e w' => e = .returned (.bool (decide (levL k2 l2 < leastL 37 l nth))) ∧ Below w.heap.size w w' := by
  have HP : ∀ w, Calls Try.prog 9 #[.agg #[.int .u8 37, .int .i64 n, .string ⟨l.toArray⟩]] w fun e w' => e = .returned (.int .i64 (levL 37 l)) ∧ Below w.heap.size w w' := fun w => levelQ ⟨37, n, l⟩ w
  have HQ : ∀ w, Calls Try.prog 9 #[.agg #[.int .u8 k2.toNat, .int .i64 n2, .string ⟨l2.toArray⟩]] w fun e w' => e = .returned (.int .i64 (levL k2 l2)) ∧ Below w.heap.size w w' := fun w => levelQ ⟨k2, n2, l2⟩ w
  have h0 : leastL 37 l 0 = levL 37 l := rfl
  have h1 : leastL 37 l 1 = levL 37 l + 1 := rfl
  have HP := Lib.hid HP
  have HQ := Lib.hid HQ
  have hb := ((Below.refl w.heap.size w).alloc (Nat.le_refl _) (Obj.cells #[.int .u8 37, .int .i64 n, .string ⟨l.toArray⟩] 23)).alloc (by simp) (Obj.cells #[.int .u8 k2.toNat, .int .i64 n2, .string ⟨l2.toArray⟩] 23)
  have hbx := heap_alloc_new w (Obj.cells #[.int .u8 37, .int .i64 n, .string ⟨l.toArray⟩] 23)
  have hB2 := (Below.refl (w.alloc (Obj.cells #[.int .u8 37, .int .i64 n, .string ⟨l.toArray⟩] 23)).heap.size (w.alloc (Obj.cells #[.int .u8 37, .int .i64 n, .string ⟨l.toArray⟩] 23))).alloc (Nat.le_refl _) (Obj.cells #[.int .u8 k2.toNat, .int .i64 n2, .string ⟨l2.toArray⟩] 23)
  have e0 : (w.alloc (Obj.cells #[.int .u8 37, .int .i64 n, .string ⟨l.toArray⟩] 23)).cell? ⟨w.heap.size, 0, none⟩ = some (.int .u8 37) := by rw [cell_of_some hbx]; rfl
  have e1 : (w.alloc (Obj.cells #[.int .u8 37, .int .i64 n, .string ⟨l.toArray⟩] 23)).cell? ⟨w.heap.size, 1, none⟩ = some (.int .i64 n) := by rw [cell_of_some hbx]; rfl
  have e2 : (w.alloc (Obj.cells #[.int .u8 37, .int .i64 n, .string ⟨l.toArray⟩] 23)).cell? ⟨w.heap.size, 2, none⟩ = some (.string ⟨l.toArray⟩) := by rw [cell_of_some hbx]; rfl
  have e0 := keepCell hB2 e0
  have e1 := keepCell hB2 e1
  have e2 := keepCell hB2 e2
  have HE := Lib.hid (And.intro e0 (And.intro e1 e2))
  clear hbx hB2 e0 e1 e2
  rcases hnth with rfl | rfl
  · rw [h0]
    generalize levL 37 l = a at *
    generalize levL k2 l2 = c at *
    clear h0 h1
    generalize hd : decide (c < a) = dd
    have HD := Lib.hid hd
    go_enter Try.func22, Try.ntmps22
    go_wp2_with fail
    refine (HQ.out _).mono ?_; rintro e w1 ⟨rfl, hb1⟩
    have e0 := keepCell hb1 HE.out.1
    have e1 := keepCell hb1 HE.out.2.1
    have e2 := keepCell hb1 HE.out.2.2
    have hb3 := bthen hb hb1
    clear HE hb hb1
    cases dd
    · have hd2 : ¬ (c < a) := of_decide_eq_false hd
      clear hd
      go_wp2_with fail
      refine (HP.out _).mono ?_; rintro e w2 ⟨rfl, hb2⟩
      go_wp2_with fail
      go_ret
      exact ⟨ret_val (by first | rfl | (show Value.bool (decide (c < a)) = _; rw [HD.out])), bthen hb3 hb2⟩
    · have hd2 : c < a := of_decide_eq_true hd
      clear hd
      go_wp2_with fail
      refine (HP.out _).mono ?_; rintro e w2 ⟨rfl, hb2⟩
      go_wp2_with fail
      go_ret
      exact ⟨ret_val (by first | rfl | (show Value.bool (decide (c < a)) = _; rw [HD.out])), bthen hb3 hb2⟩
  · rw [h1]
    generalize levL 37 l = a at *
    generalize levL k2 l2 = c at *
    clear h0 h1
    go_enter Try.func22, Try.ntmps22
    go_wp2_with fail
    refine (HQ.out _).mono ?_; rintro e w1 ⟨rfl, hb1⟩
    have e0 := keepCell hb1 HE.out.1
    have e1 := keepCell hb1 HE.out.2.1
    have e2 := keepCell hb1 HE.out.2.2
    have hb3 := bthen hb hb1
    clear HE hb hb1
    go_wp2_with fail
    refine (HP.out _).mono ?_; rintro e w2 ⟨rfl, hb2⟩
    go_wp2_with fail
    go_ret
    refine ⟨ret_val ?_, bthen hb3 hb2⟩
    have : decide (c ≤ a) = decide (c < a + 1) := by rw [Bool.eq_iff_iff]; simp; omega
    rw [← this]; rfl
end Go.Proofs.Ytgmkokophcmbnaa
