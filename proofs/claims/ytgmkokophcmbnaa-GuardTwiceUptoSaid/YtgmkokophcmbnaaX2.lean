import Derived.Test.YtgmkokophcmbnaaX1
import Derived.Test.YtgmkokophcmbnaaWB
import Derived.Handy
namespace Go.Proofs.Ytgmkokophcmbnaa
open Go.RowKit

set_option maxHeartbeats 2000000 in
theorem name_any (l : List UInt8) (w : World) :
    Calls Try.prog 17 #[.string ⟨l.toArray⟩] w fun e w' => e = .returned (.agg #[.int .u8 26, .int .i64 0, .string ⟨l.toArray⟩]) ∧ Below w.heap.size w w' := by
  have hb : Below w.heap.size w (w.alloc (Obj.cells #[.int .u8 0, .int .i64 0, .string ByteArray.empty] 23)) := (Below.refl _ _).alloc (Nat.le_refl _) _
  go_enter Try.func17, Try.ntmps17
  go_wp2_with fail
  go_returns
  exact ⟨rfl, (Below.refl _ _).alloc (Nat.le_refl _) _⟩
theorem pcells_at : ∀ (l : List Pt) (j : Nat) (p : Pt) (d : Nat), l[j]? = some p → d < 3 → (pcells l)[j * 3 + d]? = p.cells[d]?
  | [], _, _, _, h, _ => by simp at h
  | q :: l, 0, p, d, h, hd => by
    simp only [List.getElem?_cons_zero, Option.some.injEq] at h
    subst h
    simp only [pcells, List.flatMap_cons, Nat.zero_mul, Nat.zero_add]
    rw [List.getElem?_append_left (by simp [Pt.cells]; omega)]
  | q :: l, j + 1, p, d, h, hd => by
    rw [List.getElem?_cons_succ] at h
    have := pcells_at l j p d h hd
    simp only [pcells, List.flatMap_cons] at this ⊢
    rw [List.getElem?_append_right (by simp [Pt.cells]; omega)]
    rw [← this]; congr 1; simp [Pt.cells]; omega
theorem PartsAt.of_block {w : World} {g : Nat} {l : List Pt} (hg : g < w.heap.size) (h : ∀ j, j < l.length * 3 → w.cell? ⟨g, j, none⟩ = (pcells l)[j]?) : PartsAt w (some ⟨g, 0, none⟩) l := by
  refine .inr ⟨g, 0, rfl, hg, fun j p hj => ?_⟩
  have hjl : j < l.length := by
    rcases Nat.lt_or_ge j l.length with h | h
    · exact h
    · rw [List.getElem?_eq_none h] at hj; cases hj
  have e0 := h (j * 3 + 0) (by omega); have e1 := h (j * 3 + 1) (by omega); have e2 := h (j * 3 + 2) (by omega)
  rw [pcells_at l j p _ hj (by omega)] at e0 e1 e2
  refine ⟨?_, ?_, ?_⟩
  · rw [Nat.zero_add]; exact e0
  · rw [Nat.zero_add]; exact e1
  · rw [Nat.zero_add]; exact e2
theorem PartsAt.sub {w : World} {g off : Nat} {l : List Pt} (h : PartsAt w (some ⟨g, off, none⟩) l) (k : Nat) (hk : k < l.length) : PartsAt w (some ⟨g, off + k * 3, none⟩) (l.drop k) := by
  rcases h with rfl | ⟨b, o, e, hb, hc⟩
  · simp at hk
  · cases e
    refine .inr ⟨g, off + k * 3, rfl, hb, fun j p hj => ?_⟩
    rw [List.getElem?_drop] at hj
    have := hc (k + j) p hj
    rw [show off + (k + j) * 3 = off + k * 3 + j * 3 from by omega] at this
    exact this
theorem own_parts {w : World} {base : Nat} {v : Value} {l : List Pt} (h : w.ownsRow base 23 3 v l.length (pcells l)) : ∃ a cap, v = .slice a l.length cap ∧ PartsAt w a l := by
  by_cases h0 : l = []
  · subst h0
    rcases own_shape h with ⟨a, cap, rfl⟩
    exact ⟨a, cap, rfl, .inl rfl⟩
  · obtain ⟨g, cap, rfl, _⟩ := h.form (by rcases l with _ | _; exact absurd rfl h0; simp)
    exact ⟨_, cap, rfl, .of_block (h.lt g rfl).2 (fun j hj => h.cellAt j hj)⟩
theorem own_ints {w : World} {base : Nat} {v : Value} {l : List Int} (h : w.ownsRow base 3 1 v l.length (zvs l)) : ∃ a cap, v = .slice a l.length cap ∧ IntsAt w a l := by
  by_cases h0 : l = []
  · subst h0
    rcases own_shape h with ⟨a, cap, rfl⟩
    exact ⟨a, cap, rfl, .inl rfl⟩
  · obtain ⟨g, cap, rfl, _⟩ := h.form (by rcases l with _ | _; exact absurd rfl h0; simp)
    refine ⟨_, cap, rfl, .inr ⟨g, 0, rfl, (h.lt g rfl).2, fun j n hj => ?_⟩⟩
    have hjl : j < l.length := by
      rcases Nat.lt_or_ge j l.length with h | h
      · exact h
      · rw [List.getElem?_eq_none h] at hj; cases hj
    rw [Nat.zero_add, h.cellAt j (by omega), zvs, List.getElem?_map, hj]; rfl
def L5 : List Pt := [⟨37, 2, [42]⟩, ⟨37, 2, [43]⟩, ⟨26, 0, [97]⟩, ⟨26, 0, [98]⟩, ⟨26, 0, [99]⟩]
def K5 : Fo := .cons ⟨37, 2, [43]⟩ (.cons ⟨26, 0, [97]⟩ .nil (.cons ⟨26, 0, [98]⟩ .nil .nil)) (.cons ⟨26, 0, [99]⟩ .nil .nil)
theorem O5 : ptsOf (guardO ⟨37, 2, [42]⟩ K5) = [⟨37, 2, [42]⟩, ⟨28, 1, []⟩, ⟨37, 2, [43]⟩, ⟨26, 0, [97]⟩, ⟨26, 0, [98]⟩, ⟨26, 0, [99]⟩] := by kernel_rfl
theorem W5 : wellL (L5.map Pt.n) = true := by kernel_rfl
set_option maxHeartbeats 2000000 in
theorem fixed_any (m : Int) (w : World) (hm : w.cell? ⟨0, 0, none⟩ = some (.int .i64 m)) :
    Calls Try.prog 7 #[] w fun e w' => e = .returned (.bool true) ∧ Below w.heap.size w w' := by
  go_enter Try.func7, Try.ntmps7
  go_wp2_with fail
  refine (name_any _ _).mono ?_; rintro e w1 ⟨rfl, hb1⟩
  go_wp2_with fail
  refine (name_any _ _).mono ?_; rintro e w2 ⟨rfl, hb2⟩
  go_wp2_with fail
  refine (name_any _ _).mono ?_; rintro e w3 ⟨rfl, hb3⟩
  have hb := bthen hb1 (bthen hb2 hb3)
  go_wp2_with fail
  have hal := heap_alloc_new w3 (Obj.cells #[Value.int IntKind.u8 37, Value.int IntKind.i64 2, Value.string { data := #[42] }, Value.int IntKind.u8 37,
          Value.int IntKind.i64 2, Value.string { data := #[43] }, Value.int IntKind.u8 26, Value.int IntKind.i64 0,
          Value.string { data := #[97] }, Value.int IntKind.u8 26, Value.int IntKind.i64 0,
          Value.string { data := #[98] }, Value.int IntKind.u8 26, Value.int IntKind.i64 0,
          Value.string { data := #[99] }] 23)
  have hba := (Below.refl w3.heap.size w3).alloc (Nat.le_refl _) (Obj.cells #[Value.int IntKind.u8 37, Value.int IntKind.i64 2, Value.string { data := #[42] }, Value.int IntKind.u8 37,
          Value.int IntKind.i64 2, Value.string { data := #[43] }, Value.int IntKind.u8 26, Value.int IntKind.i64 0,
          Value.string { data := #[97] }, Value.int IntKind.u8 26, Value.int IntKind.i64 0,
          Value.string { data := #[98] }, Value.int IntKind.u8 26, Value.int IntKind.i64 0,
          Value.string { data := #[99] }] 23)
  have hb4 := bthen hb hba
  clear hb1 hb2 hb3 hb hba
  generalize (w3.alloc (Obj.cells #[Value.int IntKind.u8 37, Value.int IntKind.i64 2, Value.string { data := #[42] }, Value.int IntKind.u8 37,
          Value.int IntKind.i64 2, Value.string { data := #[43] }, Value.int IntKind.u8 26, Value.int IntKind.i64 0,
          Value.string { data := #[97] }, Value.int IntKind.u8 26, Value.int IntKind.i64 0,
          Value.string { data := #[98] }, Value.int IntKind.u8 26, Value.int IntKind.i64 0,
          Value.string { data := #[99] }] 23)) = w4 at *
  generalize w3.heap.size = g at *
  have hg := lt_of_block hal
  have hPA : PartsAt w4 (some ⟨g, 0, none⟩) L5 := .of_block hg (fun j hj => by rw [cell_of_some hal]; simp [pcells, L5, Pt.cells])
  refine (Put_ok (some ⟨g, 0, none⟩) 5 ⟨37, 2, [42]⟩ K5 m L5 w4 (by decide) (by decide) hPA (keepCell hb4 hm) W5 rfl rfl (by simp [K5, Fo.good, Fo.count])).mono ?_
  rintro e w5 ⟨hb5, vo, rfl, hown⟩
  rw [O5] at hown
  obtain ⟨ma, mcap, rfl, hMA⟩ := own_parts hown
  obtain ⟨g2, off2, rfl, hg2, hMc⟩ := hMA.resolve_left (by simp)
  have hcap := own_cap hown
  obtain ⟨c3, c4, c5⟩ := hMc 1 ⟨28, 1, []⟩ rfl
  have hM4 := PartsAt.sub hMA 2 (by decide)
  have hPA5 := hPA.later hb5
  obtain ⟨d0, d1, d2⟩ := (hPA5.resolve_left (by simp [L5])).elim (fun x hx => by
    obtain ⟨o, e, h1, h2⟩ := hx; cases e; exact h2 0 ⟨37, 2, [42]⟩ rfl)
  have hL4 := PartsAt.sub hPA5 1 (by decide)
  have hm5 := keepCell (bthen hb4 hb5) hm
  have hb6 := bthen hb4 hb5
  have HS : ∀ w', Below w5.heap.size w5 w' → Calls Try.prog 14 #[.slice (some ⟨g2, off2 + 6, none⟩) 4 (mcap - 2), .slice (some ⟨g, 3, none⟩) 4 4] w' fun e w'' => e = .returned (.bool true) ∧ Below w'.heap.size w' w'' := by
    intro w' hb
    exact Same_gen _ _ (mcap - 2) 4 _ _ w' (by decide) (hM4.later hb) (hL4.later hb)
  have HV : ∀ w', Below w5.heap.size w5 w' → Calls Try.prog 8 #[.agg #[.int .u8 37, .int .i64 2, .string ⟨#[42]⟩]] w' fun e w'' => e = .returned (.int .i64 5) ∧ Below w'.heap.size w' w'' := by
    intro w' hb
    exact level_any ⟨37, 2, [42]⟩ m w' (by decide) (keepCell hb hm5)
  have hle : (6 : Int) ≤ (mcap : Int) := by simp at hcap; omega
  have hm2 : mcap ≠ 2 := by omega
  simp only [List.length_cons, List.length_nil] at hown ⊢
  clear hown hMA hMc hM4 hPA hPA5 hL4 hal hb4 hb5 hcap
  have c3 : w5.cell? ⟨g2, off2 + 3, none⟩ = some (.int .u8 28) := c3
  have c4 : w5.cell? ⟨g2, off2 + 3 + 1, none⟩ = some (.int .i64 1) := c4
  have c5 : w5.cell? ⟨g2, off2 + 3 + 2, none⟩ = some (.string ⟨#[]⟩) := c5
  have d0 : w5.cell? ⟨g, 0, none⟩ = some (.int .u8 37) := d0
  have d1 : w5.cell? ⟨g, 1, none⟩ = some (.int .i64 2) := d1
  have d2 : w5.cell? ⟨g, 2, none⟩ = some (.string ⟨#[42]⟩) := d2
  go_wp2_with fail
  go_region_held3 (fun w' => w'.cell? ⟨g2, off2 + 3, none⟩ = some (.int .u8 28) ∧ w'.cell? ⟨g2, off2 + 3 + 1, none⟩ = some (.int .i64 1) ∧ w'.cell? ⟨g2, off2 + 3 + 2, none⟩ = some (.string ⟨#[]⟩) ∧
      w'.cell? ⟨g, 0, none⟩ = some (.int .u8 37) ∧ w'.cell? ⟨g, 1, none⟩ = some (.int .i64 2) ∧ w'.cell? ⟨g, 2, none⟩ = some (.string ⟨#[42]⟩) ∧ Below w5.heap.size w5 w')
    (first
      | (refine ⟨?_, ?_, ?_, ?_, ?_, ?_, ?_⟩
         all_goals first | assumption | exact (Below.refl _ _).drew)
      | (go_split_ands
         refine ⟨?_, ?_, ?_, ?_, ?_, ?_, ?_⟩
         all_goals first | exact keepCell hn (by assumption) | exact bthen (by assumption) hn))
    (first
      | (go_at_call 14; go_split_ands; refine (HS _ (by assumption)).mono ?_; rintro e w' ⟨rfl, hn⟩)
      | (go_at_call 8; go_split_ands; refine (HV _ (by assumption)).mono ?_; rintro e w' ⟨rfl, hn⟩))
  go_wp2_with fail
  go_ret
  go_split_ands
  exact ⟨rfl, bthen hb6 (by assumption)⟩
end Go.Proofs.Ytgmkokophcmbnaa
