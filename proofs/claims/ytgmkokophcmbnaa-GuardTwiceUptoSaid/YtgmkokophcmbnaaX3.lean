import Derived.Test.YtgmkokophcmbnaaX2
namespace Go.Proofs.Ytgmkokophcmbnaa
open Go.RowKit

set_option maxHeartbeats 2000000 in
set_option maxRecDepth 100000 in
theorem levels_walk (p : Pt) (m : Int) (w : World) (hw : p.w.length ≤ 1125899906842624) (hm : w.cell? ⟨0, 0, none⟩ = some (.int .i64 m)) :
    Calls Try.prog 3 #[.agg #[.int .u8 p.k.toNat, .int .i64 p.n, .string ⟨p.w.toArray⟩]] w fun e w' => e = .returned (.bool true) ∧ Below w.heap.size w w' := by
  have hbx := heap_alloc_new w (Obj.cells #[.int .u8 p.k.toNat, .int .i64 p.n, .string ⟨p.w.toArray⟩] 23)
  have hB := (Below.refl w.heap.size w).alloc (Nat.le_refl _) (Obj.cells #[.int .u8 p.k.toNat, .int .i64 p.n, .string ⟨p.w.toArray⟩] 23)
  go_enter Try.func3, Try.ntmps3
  go_wp2_with fail
  have hm1 := keepCell hB hm
  generalize (w.alloc (Obj.cells #[.int .u8 p.k.toNat, .int .i64 p.n, .string ⟨p.w.toArray⟩] 23)) = w1 at *
  generalize hee : w.heap.size = e at *
  have e0 : w1.cell? ⟨e, 0, none⟩ = some (.int .u8 p.k.toNat) := by rw [cell_of_some hbx]; rfl
  have e1 : w1.cell? ⟨e, 1, none⟩ = some (.int .i64 p.n) := by rw [cell_of_some hbx]; rfl
  have e2 : w1.cell? ⟨e, 2, none⟩ = some (.string ⟨p.w.toArray⟩) := by rw [cell_of_some hbx]; rfl
  have HF : ∀ w', Below w1.heap.size w1 w' → Calls Try.prog 7 #[] w' fun e w'' => e = .returned (.bool true) ∧ Below w'.heap.size w' w'' := fun w' hb => fixed_any m w' (keepCell hb hm1)
  have HV : ∀ w', Below w1.heap.size w1 w' → Calls Try.prog 8 #[.agg #[.int .u8 p.k.toNat, .int .i64 p.n, .string ⟨p.w.toArray⟩]] w' fun e w'' => e = .returned (.int .i64 (levL p.k p.w)) ∧ Below w'.heap.size w' w'' := fun w' hb => level_any p m w' hw (keepCell hb hm1)
  have HR : ∀ w', Below w1.heap.size w1 w' → Calls Try.prog 9 #[.agg #[.int .u8 p.k.toNat, .int .i64 p.n, .string ⟨p.w.toArray⟩]] w' fun e w'' => e = .returned (.int .i64 (levL p.k p.w)) ∧ Below w'.heap.size w' w'' := fun w' hb => by
    rw [lev_eq]; exact levelR_any p w'
  generalize levL p.k p.w = lv at *
  clear hbx hm hm1 hw
  go_region_held3 (fun w' => w'.cell? ⟨e, 0, none⟩ = some (.int .u8 p.k.toNat) ∧ w'.cell? ⟨e, 1, none⟩ = some (.int .i64 p.n) ∧ w'.cell? ⟨e, 2, none⟩ = some (.string ⟨p.w.toArray⟩) ∧ Below w1.heap.size w1 w')
    (first
      | (refine ⟨?_, ?_, ?_, ?_⟩
         all_goals first | assumption | exact (Below.refl _ _).drew)
      | (go_split_ands
         refine ⟨?_, ?_, ?_, ?_⟩
         all_goals first | exact keepCell hn (by assumption) | exact bthen (by assumption) hn))
    (first
      | (go_at_call 7; go_split_ands; refine (HF _ (by assumption)).mono ?_; rintro e w' ⟨rfl, hn⟩)
      | (go_at_call 8; go_split_ands; refine (HV _ (by assumption)).mono ?_; rintro e w' ⟨rfl, hn⟩)
      | (go_at_call 9; go_split_ands; refine (HR _ (by assumption)).mono ?_; rintro e w' ⟨rfl, hn⟩))
  go_wp2_with fail
  go_ret
  go_split_ands
  subst hee
  exact ⟨by simp, bthen hB (by assumption)⟩
end Go.Proofs.Ytgmkokophcmbnaa
