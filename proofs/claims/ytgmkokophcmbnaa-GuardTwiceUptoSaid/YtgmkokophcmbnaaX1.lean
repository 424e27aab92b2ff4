import Derived.Test.YtgmkokophcmbnaaV3
namespace Go.Proofs.Ytgmkokophcmbnaa
open Go.RowKit

set_option maxHeartbeats 4000000 in
set_option maxRecDepth 100000 in
theorem levelR_any (p : Pt) (w : World) :
    Calls Try.prog 9 #[.agg #[.int .u8 p.k.toNat, .int .i64 p.n, .string ⟨p.w.toArray⟩]] w fun e w' => e = .returned (.int .i64 (levR p.k p.w)) ∧ Below w.heap.size w w' := by
  obtain ⟨k, n, l⟩ := p
  have hb : Below w.heap.size w (w.alloc (Obj.cells #[.int .u8 k.toNat, .int .i64 n, .string ⟨l.toArray⟩] 23)) := (Below.refl _ _).alloc (Nat.le_refl _) _
  by_cases h36 : k = 36
  · subst h36
    go_enter Try.func9, Try.ntmps9
    go_wp2_with fail
    go_ret
    exact ⟨rfl, hb⟩
  by_cases h35 : k = 35
  · subst h35
    go_enter Try.func9, Try.ntmps9
    go_wp2_with fail
    go_ret
    exact ⟨rfl, hb⟩
  by_cases h37 : k = 37
  · subst h37
    have hv : levR 37 l = (wordsR.lookup l).getD 1 := rfl
    clear h36 h35
    by_cases hl : l ∈ wordsR.map Prod.fst
    · simp only [wordsR, List.map_cons, List.map_nil, List.mem_cons, List.not_mem_nil, or_false] at hl
      clear hv
      rcases hl with rfl | rfl | rfl | rfl | rfl | rfl | rfl | rfl | rfl | rfl | rfl | rfl | rfl | rfl | rfl | rfl | rfl | rfl
      all_goals
        go_enter Try.func9, Try.ntmps9
        go_wp2_with fail
        go_ret
        exact ⟨rfl, hb⟩
    · have HV := Lib.hid (show levR 37 l = 1 by rw [hv, lookup_no l wordsR hl]; rfl)
      have hne : ∀ u ∈ wordsR.map Prod.fst, (l == u) = false := by
        intro u hu
        rw [beq_eq_false_iff_ne]; intro e
        exact hl (by rw [e]; exact hu)
      clear hl hv
      simp only [wordsR, List.map_cons, List.map_nil, List.forall_mem_cons] at hne
      obtain ⟨h1, h2, h3, h4, h5, h6, h7, h8, h9, h10, h11, h12, h13, h14, h15, h16, h17, h18, _⟩ := hne
      go_enter Try.func9, Try.ntmps9
      go_wp2_with fail
      go_ret
      exact ⟨ret_int (by rw [HV.out]), hb⟩
  · have d36 : ((k.toNat : Int) == 36) = false := by rw [beq_eq_false_iff_ne]; intro e; exact h36 ((u8n k 36 (by decide)).1 e)
    have d35 : ((k.toNat : Int) == 35) = false := by rw [beq_eq_false_iff_ne]; intro e; exact h35 ((u8n k 35 (by decide)).1 e)
    have d37 : ((k.toNat : Int) == 37) = false := by rw [beq_eq_false_iff_ne]; intro e; exact h37 ((u8n k 37 (by decide)).1 e)
    have HV := Lib.hid (show levR k l = 7 by simp [levR, h36, h35, h37])
    clear h36 h35 h37
    go_enter Try.func9, Try.ntmps9
    go_wp2_with fail
    go_ret
    exact ⟨ret_int (by rw [HV.out]), hb⟩
end Go.Proofs.Ytgmkokophcmbnaa
