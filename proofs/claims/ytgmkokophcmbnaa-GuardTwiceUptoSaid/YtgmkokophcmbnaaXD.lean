import Derived.Test.YtgmkokophcmbnaaXC
import Derived.Test.YtgmkokophcmbnaaX2
namespace Go.Proofs.Ytgmkokophcmbnaa
open Go.RowKit

/-- With's answer, of a code and two rows -/
def WithPost (code : Int) (po : List Pt) (nu : List Int) (w : World) (e : Ending) (w' : World) : Prop :=
  Below w.heap.size w w' ∧ ∃ vo vn, e = .returned (.tuple #[vo, vn, .int .i64 code]) ∧ w'.ownsRow w.heap.size 23 3 vo po.length (pcells po) ∧ w'.ownsRow w.heap.size 3 1 vn nu.length (zvs nu)
def PutPost (code : Int) (po : List Pt) (w : World) (e : Ending) (w' : World) : Prop :=
  Below w.heap.size w w' ∧ ∃ vo, e = .returned (.tuple #[vo, .int .i64 code]) ∧ w'.ownsRow w.heap.size 23 3 vo po.length (pcells po)
theorem guardO_len (q : Pt) (k : Fo) : (guardO q k).length ≤ 2 * k.size + 1 := by
  have := gl_len k q 0 1
  simp [guardO]; omega
theorem With_both (l : List Pt) (fr : List Int) (hl : l.length ≤ 300) (hw : ∀ q ∈ l, q.w.length ≤ 1125899906842624) :
    ∃ (code : Int) (po : List Pt) (nu : List Int), po.length ≤ 600 ∧ nu.length ≤ 600 ∧ ∀ (a fa : Option Addr) (cap fcap : Nat) (m : Int) (w : World), PartsAt w a l → IntsAt w fa fr → w.cell? ⟨0, 0, none⟩ = some (.int .i64 m) →
      Calls Try.prog 10 #[.slice a l.length cap, .slice fa fr.length fcap] w (WithPost code po nu w) ∧ Calls Try.prog 11 #[.slice a l.length cap, .slice fa fr.length fcap] w (WithPost code po nu w) := by
  cases hb : wellL (l.map Pt.n) with
  | false =>
    refine ⟨8, [], [], by simp, by simp, fun a fa cap fcap m w h _ _ => ⟨(With_bad a fa cap fcap l fr w (by omega) h hb).mono ?_, (WithR_bad a fa cap fcap l fr w hl h hb).mono ?_⟩⟩ <;>
    · rintro e w' ⟨rfl, hB⟩
      exact ⟨hB, _, _, rfl, World.ownsRow_nil _ _ _ _, World.ownsRow_nil _ _ _ _⟩
  | true =>
    by_cases hlen : fr.length = l.length
    · obtain ⟨q, k, hq, hk, hg⟩ := well_forest l hb
      have hs : l.length = 1 + k.size := by rw [hq, List.length_cons, Fo.flat_len]; omega
      have := guardO_len q k
      exact ⟨0, ptsOf (guardO q k), numsOf fr (guardO q k), by simp [ptsOf]; omega, by simp [numsOf]; omega, fun a fa cap fcap m w h hf hm =>
        ⟨With_ok a fa cap fcap q k m l fr w (by omega) hw h hf hm hb hlen hq hk hg, WithR_ok a fa cap fcap q k l fr w hl h hf hb hlen hq hk hg⟩⟩
    · refine ⟨1, [], [], by simp, by simp, fun a fa cap fcap m w h _ _ => ⟨(With_len a fa cap fcap l fr w (by omega) h hb hlen).mono ?_, (WithR_len a fa cap fcap l fr w hl h hb hlen).mono ?_⟩⟩ <;>
      · rintro e w' ⟨rfl, hB⟩
        exact ⟨hB, _, _, rfl, World.ownsRow_nil _ _ _ _, World.ownsRow_nil _ _ _ _⟩
theorem Put_both (l : List Pt) (hl : l.length ≤ 300) (hw : ∀ q ∈ l, q.w.length ≤ 1125899906842624) :
    ∃ (code : Int) (po : List Pt), po.length ≤ 600 ∧ ∀ (a : Option Addr) (cap : Nat) (m : Int) (w : World), PartsAt w a l → w.cell? ⟨0, 0, none⟩ = some (.int .i64 m) →
      Calls Try.prog 12 #[.slice a l.length cap] w (PutPost code po w) ∧ Calls Try.prog 13 #[.slice a l.length cap] w (PutPost code po w) := by
  cases hb : wellL (l.map Pt.n) with
  | false =>
    refine ⟨8, [], by simp, fun a cap m w h _ => ⟨(Put_bad a cap l w (by omega) h hb).mono ?_, (PutR_bad a cap l w hl h hb).mono ?_⟩⟩ <;>
    · rintro e w' ⟨rfl, hB⟩
      exact ⟨hB, _, rfl, World.ownsRow_nil _ _ _ _⟩
  | true =>
    obtain ⟨q, k, hq, hk, hg⟩ := well_forest l hb
    have hs : l.length = 1 + k.size := by rw [hq, List.length_cons, Fo.flat_len]; omega
    have := guardO_len q k
    exact ⟨0, ptsOf (guardO q k), by simp [ptsOf]; omega, fun a cap m w h hm =>
      ⟨Put_ok a cap q k m l w (by omega) hw h hm hb hq hk hg, PutR_ok a cap q k l w hl h hb hq hk hg⟩⟩
theorem eqL_refl (l : List Pt) : eqL l l = true := (eqL_iff l l).2 rfl
theorem eqI_refl (l : List Int) : eqI l l = true := (eqI_iff l l).2 rfl

set_option maxHeartbeats 4000000 in
theorem puts_walk (a fa : Option Addr) (cap fcap : Nat) (l : List Pt) (fr : List Int) (m : Int) (w : World) (hw : ∀ q ∈ l, q.w.length ≤ 1125899906842624) (h : PartsAt w a l) (hf : IntsAt w fa fr)
    (hm : w.cell? ⟨0, 0, none⟩ = some (.int .i64 m)) :
    Calls Try.prog 4 #[.slice a l.length cap, .slice fa fr.length fcap] w fun e w' => e = .returned (.bool true) ∧ Below w.heap.size w w' := by
  by_cases hbig : l.length ≤ 300 ∧ fr.length ≤ 300
  · obtain ⟨hl, hfl⟩ := hbig
    obtain ⟨c1, po, nu, hpo, hnu, HW⟩ := With_both l fr hl hw
    obtain ⟨c2, qo, hqo, HP⟩ := Put_both l hl hw
    have d1 : decide ((300 : Int) < (l.length : Int)) = false := decide_eq_false (by omega)
    have d2 : decide ((300 : Int) < (fr.length : Int)) = false := decide_eq_false (by omega)
    have HWh := Lib.hid HW
    have HPh := Lib.hid HP
    have Hh := Lib.hid h
    have Hf := Lib.hid hf
    clear HW HP hw h hf
    go_enter Try.func4, Try.ntmps4
    go_wp2_with fail
    refine ((HWh.out a fa cap fcap m w Hh.out Hf.out hm).1).mono ?_
    rintro e w1 ⟨hb1, vo1, vn1, rfl, ho1, hn1⟩
    have hm1 := keepCell hb1 hm
    go_wp2_with fail
    refine ((HWh.out a fa cap fcap m w1 (Hh.out.later hb1) (Hf.out.later hb1) hm1).2).mono ?_
    rintro e w2 ⟨hb2, vo2, vn2, rfl, ho2, hn2⟩
    have hm2 := keepCell hb2 hm1
    have hb12 := bthen hb1 hb2
    go_wp2_with fail
    refine ((HPh.out a cap m w2 (Hh.out.later hb12) hm2).1).mono ?_
    rintro e w3 ⟨hb3, vo3, rfl, ho3⟩
    have hm3 := keepCell hb3 hm2
    have hb13 := bthen hb12 hb3
    go_wp2_with fail
    refine ((HPh.out a cap m w3 (Hh.out.later hb13) hm3).2).mono ?_
    rintro e w4 ⟨hb4, vo4, rfl, ho4⟩
    have hm4 := keepCell hb4 hm3
    have hb14 := bthen hb13 hb4
    have hb34 := bthen hb3 hb4
    have hb24 := bthen hb2 hb34
    obtain ⟨a1, k1, rfl, ha1⟩ := own_parts (ownsRow_below ho1 hb24)
    obtain ⟨a2, k2, rfl, ha2⟩ := own_parts (ownsRow_below ho2 hb34)
    obtain ⟨a3, k3, rfl, ha3⟩ := own_parts (ownsRow_below ho3 hb4)
    obtain ⟨a4, k4, rfl, ha4⟩ := own_parts ho4
    obtain ⟨x1, j1, rfl, hx1⟩ := own_ints (ownsRow_below hn1 hb24)
    obtain ⟨x2, j2, rfl, hx2⟩ := own_ints (ownsRow_below hn2 hb34)
    have HA := Lib.hid (And.intro ha1 (And.intro ha2 (And.intro ha3 (And.intro ha4 (And.intro hx1 hx2)))))
    clear ho1 hn1 ho2 hn2 ho3 ho4 ha1 ha2 ha3 ha4 hx1 hx2 hb1 hb2 hb3 hb4 hb12 hb13 hb34 hb24 hm1 hm2 hm3
    go_wp2_with fail
    refine (fixed_any m w4 hm4).mono ?_
    rintro e w5 ⟨rfl, hb5⟩
    go_wp2_with fail
    refine (Same_gen a1 a2 k1 k2 po po w5 (by omega) (HA.out.1.later hb5) (HA.out.2.1.later hb5)).mono ?_
    rintro e w6 ⟨rfl, hb6⟩
    rw [eqL_refl]
    have hb56 := bthen hb5 hb6
    go_wp2_with fail
    refine (Ints_gen x1 x2 j1 j2 nu nu w6 (by omega) (HA.out.2.2.2.2.1.later hb56) (HA.out.2.2.2.2.2.later hb56)).mono ?_
    rintro e w7 ⟨rfl, hb7⟩
    rw [eqI_refl]
    have hb57 := bthen hb56 hb7
    go_wp2_with fail
    refine (Same_gen a3 a4 k3 k4 qo qo w7 (by omega) (HA.out.2.2.1.later hb57) (HA.out.2.2.2.1.later hb57)).mono ?_
    rintro e w8 ⟨rfl, hb8⟩
    rw [eqL_refl]
    have hb9 := bthen hb14 (bthen hb57 hb8)
    go_wp2_with fail
    go_ret
    exact ⟨rfl, hb9⟩
  · have HFx := Lib.hid (fixed_any m w hm)
    by_cases h1 : l.length ≤ 300
    · have d1 : decide ((300 : Int) < (l.length : Int)) = false := decide_eq_false (by omega)
      have d2 : decide ((300 : Int) < (fr.length : Int)) = true := decide_eq_true (by omega)
      clear h hf hw hm hbig
      go_enter Try.func4, Try.ntmps4
      go_wp2_with fail
      refine HFx.out.mono ?_
      rintro e w1 ⟨rfl, hb1⟩
      go_wp2_with fail
      go_ret
      exact ⟨rfl, hb1⟩
    · have d1 : decide ((300 : Int) < (l.length : Int)) = true := decide_eq_true (by omega)
      clear h hf hw hm hbig
      go_enter Try.func4, Try.ntmps4
      go_wp2_with fail
      refine HFx.out.mono ?_
      rintro e w1 ⟨rfl, hb1⟩
      go_wp2_with fail
      go_ret
      exact ⟨rfl, hb1⟩
end Go.Proofs.Ytgmkokophcmbnaa
