import Derived.Test.YtgmkokophcmbnaaW3
namespace Go.Proofs.Ytgmkokophcmbnaa
open Go.RowKit

/-- a list of parts lies in memory, to be read -/
def PartsAt (w : World) (a : Option Addr) (l : List Pt) : Prop :=
  l = [] ∨ ∃ b off, a = some ⟨b, off, none⟩ ∧ b < w.heap.size ∧ ∀ j p, l[j]? = some p →
    w.cell? ⟨b, off + j * 3, none⟩ = some (.int .u8 (p.k.toNat : Int)) ∧ w.cell? ⟨b, off + j * 3 + 1, none⟩ = some (.int .i64 p.n) ∧ w.cell? ⟨b, off + j * 3 + 2, none⟩ = some (.string ⟨p.w.toArray⟩)
def IntsAt (w : World) (a : Option Addr) (l : List Int) : Prop :=
  l = [] ∨ ∃ b off, a = some ⟨b, off, none⟩ ∧ b < w.heap.size ∧ ∀ j n, l[j]? = some n → w.cell? ⟨b, off + j, none⟩ = some (.int .i64 n)
theorem PartsAt.later {w w' : World} {a : Option Addr} {l : List Pt} (h : PartsAt w a l) (hb : Below w.heap.size w w') : PartsAt w' a l := by
  rcases h with h | ⟨b, off, e, hlt, hc⟩
  · exact .inl h
  · refine .inr ⟨b, off, e, Nat.lt_of_lt_of_le hlt hb.size, fun j p hj => ?_⟩
    rw [hb.cell (p := ⟨b, off + j * 3, none⟩) hlt, hb.cell (p := ⟨b, off + j * 3 + 1, none⟩) hlt, hb.cell (p := ⟨b, off + j * 3 + 2, none⟩) hlt]
    exact hc j p hj
theorem IntsAt.later {w w' : World} {a : Option Addr} {l : List Int} (h : IntsAt w a l) (hb : Below w.heap.size w w') : IntsAt w' a l := by
  rcases h with h | ⟨b, off, e, hlt, hc⟩
  · exact .inl h
  · refine .inr ⟨b, off, e, Nat.lt_of_lt_of_le hlt hb.size, fun j p hj => ?_⟩
    rw [hb.cell (p := ⟨b, off + j, none⟩) hlt]
    exact hc j p hj

set_option maxHeartbeats 2000000 in
theorem ends_nil (a : Option Addr) (cap : Nat) (w : World) : Calls Try.prog 27 #[.slice a 0 cap] w (EndsPost [] w) := by
  obtain ⟨i0, hi, hz0, hz1, hz2⟩ := info_parts Try.info3
  go_enter Try.func27, Try.ntmps27
  go_wp2_with (refine wpList_make_full _ rfl _ _ 28 rfl w.heap.size 3 i0 (.int .i64 0) 1 Try.underlying28 hi hz0 hz1 .i64 .i64 0 0 0 rfl rfl rfl rfl (by rw [hz2]; omega) (by unfold maxLen; omega) (Nat.le_refl _) ?_; intro w1 hown hgrow)
  refine wp_loop_rounds 1 ?_
  rw [rounds_succ]
  go_wp2_with fail
  go_ret3
  refine EndsPost.yes (o := []) (st := []) rfl ((Below.refl _ _).grown hgrow (Nat.le_refl _) (fun k h => by cases h)) rfl ?_
  have e1 : (madeCells (Value.int IntKind.i64 0).cells (0 * 1)).toList = ivs [] := by
    rw [show (Value.int IntKind.i64 0).cells = #[Value.int IntKind.i64 0] from rfl, toList_madeCells_one]; rfl
  rw [← e1]; exact hown
theorem ends_gen (a : Option Addr) (cap : Nat) (l : List Pt) (w : World) (hl : l.length ≤ 1099511627776) (h : PartsAt w a l) :
    Calls Try.prog 27 #[.slice a l.length cap] w (EndsPost (l.map Pt.n) w) := by
  rcases h with rfl | ⟨b, off, rfl, hb, hc⟩
  · exact ends_nil a cap w
  · exact ends_any b off cap l w hl hb (fun j p hj => (hc j p hj).2.1)
/-- is a list one tree? -/
def wellL (ks : List Int) : Bool := match endsL ks 0 with | none => false | some (_, st) => st.length == 1
/-- what term.well answers -/
def WellPost (ks : List Int) (w : World) (e : Ending) (w' : World) : Prop := Below w.heap.size w w' ∧
  ∃ vo, e = .returned (.tuple #[vo, .bool (wellL ks)]) ∧ match endsL ks 0 with | none => True | some (o, _) => w'.ownsRow w.heap.size 3 1 vo o.length (ivs o)
set_option maxHeartbeats 2000000 in
theorem well_gen (a : Option Addr) (cap : Nat) (l : List Pt) (w : World) (hl : l.length ≤ 1099511627776) (h : PartsAt w a l) :
    Calls Try.prog 23 #[.slice a l.length cap] w (WellPost (l.map Pt.n) w) := by
  have he := ends_gen a cap l w hl h
  unfold EndsPost at he
  cases hm : endsL (l.map Pt.n) 0 with
  | none =>
    rw [hm] at he
    have HE := Lib.hid he
    have HM := Lib.hid hm
    clear he hm
    go_enter Try.func23, Try.ntmps23
    go_wp2_with fail
    refine HE.out.mono ?_
    rintro e w1 ⟨hb, rfl⟩
    go_wp2_with fail
    go_ret2
    have hw : wellL (l.map Pt.n) = false := by simp [wellL, HM.out]
    refine ⟨hb, .slice none 0 0, ?_, by rw [HM.out]; trivial⟩
    rw [hw]; rfl
  | some x =>
    obtain ⟨o, st⟩ := x
    rw [hm] at he
    have HE := Lib.hid he
    have HM := Lib.hid hm
    clear he hm
    go_enter Try.func23, Try.ntmps23
    go_wp2_with fail
    refine HE.out.mono ?_
    rintro e w1 ⟨hb, vo, rfl, hown⟩
    go_wp2_with fail
    go_ret2
    all_goals (refine ⟨hb, vo, ?_, by rw [HM.out]; exact hown⟩)
    all_goals (have hw : wellL (l.map Pt.n) = (st.length == 1) := by simp [wellL, HM.out])
    all_goals (have hw2 : ((st.length : Int) == 1) = (st.length == 1) := by rw [Bool.eq_iff_iff]; simp; omega)
    all_goals (rw [hw, ← hw2]; rfl)
theorem Well_gen (a : Option Addr) (cap : Nat) (l : List Pt) (w : World) (hl : l.length ≤ 1099511627776) (h : PartsAt w a l) :
    Calls Try.prog 16 #[.slice a l.length cap] w fun e w' => e = .returned (.bool (wellL (l.map Pt.n))) ∧ Below w.heap.size w w' := by
  have HE := Lib.hid (well_gen a cap l w hl h)
  go_enter Try.func16, Try.ntmps16
  go_wp2_with fail
  refine HE.out.mono ?_
  rintro e w1 ⟨hb, vo, rfl, _⟩
  go_wp2_with fail
  go_ret
  exact ⟨rfl, hb⟩
end Go.Proofs.Ytgmkokophcmbnaa
