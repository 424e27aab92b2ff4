import Derived.Test.YtgmkokophcmbnaaW8
import Derived.Test.YtgmkokophcmbnaaV2
import Derived.Deep.Onto
namespace Go.Proofs.Ytgmkokophcmbnaa
open Go.RowKit

/-- the guarded list of a tree -/
def guardO (q : Pt) (k : Fo) : List (Pt × Option Nat) := (q, some 0) :: gl k q 0 1
/-- what With answers where all is well -/
def WithOk (q : Pt) (k : Fo) (fr : List Int) (w : World) (e : Ending) (w' : World) : Prop :=
  Below w.heap.size w w' ∧ ∃ vo vn, e = .returned (.tuple #[vo, vn, .int .i64 0]) ∧ w'.ownsRow w.heap.size 23 3 vo (ptsOf (guardO q k)).length (pcells (ptsOf (guardO q k))) ∧
    w'.ownsRow w.heap.size 3 1 vn (numsOf fr (guardO q k)).length (zvs (numsOf fr (guardO q k)))

theorem World.pos_of_cell {w : World} {i : Nat} {v : Value} (h : w.cell? ⟨0, i, none⟩ = some v) : 0 < w.heap.size := World.block_lt_of_cell? w _ h

set_option maxHeartbeats 2000000 in
theorem With_bad (a fa : Option Addr) (cap fcap : Nat) (l : List Pt) (fr : List Int) (w : World) (hl : l.length ≤ 1099511627776) (h : PartsAt w a l) (hb : wellL (l.map Pt.n) = false) :
    Calls Try.prog 10 #[.slice a l.length cap, .slice fa fr.length fcap] w fun e w' => e = .returned (.tuple #[.slice none 0 0, .slice none 0 0, .int .i64 8]) ∧ Below w.heap.size w w' := by
  have HE := Lib.hid (Well_gen a cap l w hl h)
  rw [hb] at HE
  go_enter Try.func10, Try.ntmps10
  go_wp2_with fail
  refine HE.out.mono ?_
  rintro e w1 ⟨rfl, hb⟩
  go_wp2_with fail
  go_ret3
  exact ⟨rfl, hb⟩
set_option maxHeartbeats 2000000 in
theorem With_len (a fa : Option Addr) (cap fcap : Nat) (l : List Pt) (fr : List Int) (w : World) (hl : l.length ≤ 1099511627776) (h : PartsAt w a l) (hb : wellL (l.map Pt.n) = true) (hne : fr.length ≠ l.length) :
    Calls Try.prog 10 #[.slice a l.length cap, .slice fa fr.length fcap] w fun e w' => e = .returned (.tuple #[.slice none 0 0, .slice none 0 0, .int .i64 1]) ∧ Below w.heap.size w w' := by
  have HE := Lib.hid (Well_gen a cap l w hl h)
  rw [hb] at HE
  have hd : ((fr.length : Int) == (l.length : Int)) = false := by rw [beq_eq_false_iff_ne]; omega
  clear hne
  go_enter Try.func10, Try.ntmps10
  go_wp2_with fail
  refine HE.out.mono ?_
  rintro e w1 ⟨rfl, hb⟩
  go_wp2_with fail
  go_ret3
  exact ⟨rfl, hb⟩
set_option maxHeartbeats 2000000 in
theorem With_ok (a fa : Option Addr) (cap fcap : Nat) (q : Pt) (k : Fo) (m : Int) (l : List Pt) (fr : List Int) (w : World) (hl : l.length ≤ 1099511627776) (hw : ∀ q ∈ l, q.w.length ≤ 1125899906842624) (h : PartsAt w a l)
    (hf : IntsAt w fa fr) (hm : w.cell? ⟨0, 0, none⟩ = some (.int .i64 m)) (hb : wellL (l.map Pt.n) = true) (hlen : fr.length = l.length) (hq : l = q :: k.flat) (hk : (k.count : Int) = q.n) (hg : k.good) :
    Calls Try.prog 10 #[.slice a l.length cap, .slice fa fr.length fcap] w (WithOk q k fr w) := by
  have HE := Lib.hid (Well_gen a cap l w hl h)
  rw [hb] at HE
  have hl0 : l ≠ [] := by rw [hq]; simp
  have hf0 : fr ≠ [] := fun e => by rw [e] at hlen; exact hl0 (List.eq_nil_of_length_eq_zero hlen.symm)
  obtain ⟨b, off, rfl, hbs, hcb⟩ := h.resolve_left hl0
  obtain ⟨fb, foff, rfl, hfs, hcf⟩ := hf.resolve_left hf0
  have hd : ((fr.length : Int) == (l.length : Int)) = true := by rw [beq_iff_eq]; omega
  have HL := Lib.hid hlen
  rw [hlen]
  have hd : ((l.length : Int) == (l.length : Int)) = true := by simp
  have HQ := Lib.hid (And.intro hq (And.intro hk hg))
  have HB := Lib.hid (And.intro hcb hcf)
  clear h hf hl0 hf0 hlen hq hk hg hcb hcf
  go_enter Try.func10, Try.ntmps10
  go_wp2_with fail
  refine HE.out.mono ?_
  rintro e w1 ⟨rfl, hb1⟩
  go_wp2_with fail
  have hB2 : Below w1.heap.size w1 (w1.alloc (Obj.cells #[.slice (some ⟨b, off, none⟩) l.length cap, .slice (some ⟨fb, foff, none⟩) l.length fcap, .slice none 0 0, .slice none 0 0, .int .i64 0] 43)) := (Below.refl _ _).alloc (Nat.le_refl _) _
  have hC0 : Cop w1.heap.size (.slice (some ⟨b, off, none⟩) l.length cap) (.slice (some ⟨fb, foff, none⟩) l.length fcap) (.slice none 0 0) (.slice none 0 0) ((0 : Nat) : Int) [] [] (w1.alloc (Obj.cells #[.slice (some ⟨b, off, none⟩) l.length cap, .slice (some ⟨fb, foff, none⟩) l.length fcap, .slice none 0 0, .slice none 0 0, .int .i64 0] 43)) :=
    ⟨heap_alloc_new w1 _, World.ownsRow_nil _ _ _ _, World.ownsRow_nil _ _ _ _, fun g h => by cases h⟩
  have hb3 := bthen hb1 hB2
  have hL0 : Lay w1.heap.size b off fb foff m l fr (w1.alloc (Obj.cells #[.slice (some ⟨b, off, none⟩) l.length cap, .slice (some ⟨fb, foff, none⟩) l.length fcap, .slice none 0 0, .slice none 0 0, .int .i64 0] 43)) := by
    have := hb1.size
    have h0 := World.pos_of_cell hm
    refine ⟨by omega, by omega, by omega, HL.out, ?_, fun j p hj => ?_, fun j n hj => ?_⟩
    · rw [hb3.cell h0]; exact hm
    · rw [hb3.cell (p := ⟨b, off + j * 3, none⟩) hbs, hb3.cell (p := ⟨b, off + j * 3 + 1, none⟩) hbs, hb3.cell (p := ⟨b, off + j * 3 + 2, none⟩) hbs]; exact HB.out.1 j p hj
    · rw [hb3.cell (p := ⟨fb, foff + j, none⟩) hfs]; exact HB.out.2 j n hj
  have hput := put_all w1.heap.size b off cap fb foff fcap m l fr hl hw (k.size + 1) k q 0 [] [] [] _ _ _ (by omega) HQ.out.2.1 HQ.out.2.2 (by rw [List.drop_zero, HQ.out.1, List.append_nil]) (by simp) rfl hC0 hL0
  refine hput.mono ?_
  rintro e w9 ⟨vo, vn, rfl, hC9, hT9⟩
  have hB9 : Below w.heap.size w w9 := by
    have hs := hb1.size
    have hs9 := hT9.size
    simp at hs9
    refine ⟨hT9.os.trans hb3.os, hT9.tape.trans hb3.tape, hT9.output.trans hb3.output, by omega, fun i hi => ?_⟩
    rw [hT9.block i (by simp; omega) (by omega) (by simp [Value.ownBlock]) (by simp [Value.ownBlock]), hb3.block i hi]
  clear hput hC0 hL0 hT9 hB2 hb3
  generalize hcc : w1.heap.size = c at *
  have hcw : w.heap.size ≤ c := by have := hb1.size; omega
  obtain ⟨c0, c1, c2, c3, c4, hc9⟩ := hC9.cell
  go_wp2_with fail
  go_region_held3 (fun w' => w'.cell? ⟨c, 2, none⟩ = some vo ∧ w'.cell? ⟨c, 3, none⟩ = some vn) (go_keep) (first | fail)
  go_wp2_with fail
  go_ret3
  exact ⟨hB9.drew, vo, vn, rfl, hC9.own.mono (by omega), hC9.onn.mono (by omega)⟩
end Go.Proofs.Ytgmkokophcmbnaa
