import Derived.Test.YtgmkokophcmbnaaXD
import Derived.OwnWalk
namespace Go.Proofs.Ytgmkokophcmbnaa
open Go.RowKit

theorem pcells_len (l : List Pt) : (pcells l).length = l.length * 3 := by
  induction l with
  | nil => rfl
  | cons p r ih => simp only [pcells, List.flatMap_cons, List.length_append, List.length_cons] at ih ⊢; rw [ih]; simp [Pt.cells]; omega
theorem pcells_one (l : List Pt) : ∀ u ∈ pcells l, u.oneCell' = true := by
  intro u hu
  simp only [pcells, List.mem_flatMap] at hu
  obtain ⟨p, _, hp⟩ := hu
  simp only [Pt.cells, List.mem_cons, List.not_mem_nil, or_false] at hp
  rcases hp with rfl | rfl | rfl <;> rfl
theorem PartsAt.news {w : World} {ad : Addr} {l : List Pt} (h : PartsAt w (some ad) l) (j : Nat) (u : Value) (hj : (pcells l)[j]? = some u) : w.cell? (ad.add j) = some u := by
  have hjl : j < (pcells l).length := by
    rcases Nat.lt_or_ge j (pcells l).length with h | h
    · exact h
    · rw [List.getElem?_eq_none h] at hj; cases hj
  rw [pcells_len] at hjl
  rcases h with rfl | ⟨b, off, e, _, hc⟩
  · simp at hjl
  · cases e
    have hq : l[j / 3]? = some (l[j / 3]'(by omega)) := List.getElem?_eq_getElem (by omega)
    obtain ⟨c0, c1, c2⟩ := hc _ _ hq
    have hpc := pcells_at l (j / 3) _ (j % 3) hq (by omega)
    rw [show j / 3 * 3 + j % 3 = j from by omega, hj] at hpc
    have had : (Addr.mk b off none).add j = ⟨b, off + j, none⟩ := by
      unfold Addr.add
      split
      · rename_i h; subst h; rfl
      · rfl
    rw [had]
    have h3 : j % 3 = 0 ∨ j % 3 = 1 ∨ j % 3 = 2 := by omega
    rcases h3 with h3 | h3 | h3
    · rw [h3] at hpc
      simp only [Pt.cells, List.getElem?_cons_zero, Option.some.injEq] at hpc
      rw [hpc, ← c0]; congr 2; omega
    · rw [h3] at hpc
      simp only [Pt.cells, List.getElem?_cons_zero, List.getElem?_cons_succ, Option.some.injEq] at hpc
      rw [hpc, ← c1]; congr 2; omega
    · rw [h3] at hpc
      simp only [Pt.cells, List.getElem?_cons_zero, List.getElem?_cons_succ, Option.some.injEq] at hpc
      rw [hpc, ← c2]; congr 2; omega
/-- ahead of a round that writes over the first answer -/
def Over (w6 : World) (N : Nat) (va : Value) (n : Nat) (w' : World) (u8 : Value) : Prop :=
  ∃ (i : Nat) (xs : List Value), u8 = .int .i64 (i : Int) ∧ i ≤ n ∧ w'.ownsRow N 23 3 va n xs ∧ w6.grownBy w' va.ownBlock
set_option maxHeartbeats 4000000 in
theorem fresh_walk (a : Option Addr) (cap : Nat) (l : List Pt) (m : Int) (w : World) (ha : a = none → cap = 0) (hw : ∀ q ∈ l, q.w.length ≤ 1125899906842624) (h : PartsAt w a l) (hm : w.cell? ⟨0, 0, none⟩ = some (.int .i64 m)) :
    Calls Try.prog 6 #[.slice a l.length cap] w fun e w' => e = .returned (.bool true) ∧ Below w.heap.size w w' := by
  by_cases hl : l.length ≤ 300
  · obtain ⟨code, po, hpo, HP⟩ := Put_both l hl hw
    obtain ⟨i23, hi23, hz0, hz1, hz2⟩ := info_parts Try.info23
    have d1 : decide ((300 : Int) < (l.length : Int)) = false := decide_eq_false (by omega)
    have HPh := Lib.hid HP
    have Hh := Lib.hid h
    have hao : a = none → l.length = 0 ∧ cap = 0 := by
      intro e
      refine ⟨?_, ha e⟩
      rcases h with h | ⟨b, off, e2, _⟩
      · rw [h]; rfl
      · rw [e] at e2; cases e2
    have Ha := Lib.hid hao
    clear hao
    clear HP hw h ha
    go_enter Try.func6, Try.ntmps6
    go_wp2_with (first
      | (refine wpList_make_own _ rfl _ _ 27 rfl w.heap.size 23 i23 _ 3 Try.underlying27 hi23 hz0 hz1 .i64 .i64 _ (l.length + 1) rfl rfl (by simp) (by rw [hz2]; omega) (by unfold maxLen; omega) (Nat.le_refl _) ?_; intro w1 hown1 hgrow1)
      | (at_builtin; refine wpList_append_fits_any _ rfl _ _ 27 rfl w.heap.size 23 i23 3 Try.underlying27 hi23 hz1 w.heap.size 0 (l.length + 1) [] rfl hown1 a l.length cap (pcells l) rfl (pcells_len l) (fun e => Ha.out e) (fun ad e => PartsAt.news (e ▸ Hh.out.later ((Below.refl _ _).grown hgrow1 (Nat.le_refl _) (fun k h => by cases h)))) (pcells_one l) (by omega) ?_; intro w2 hown2 hgrow2))
    rw [Nat.zero_add, List.nil_append] at hown2
    have hb1 : Below w.heap.size w w1 := (Below.refl _ _).grown hgrow1 (Nat.le_refl _) (fun k h => by cases h)
    have hb2 : Below w.heap.size w w2 := hb1.grown hgrow2 hb1.size (fun k h => by cases h; exact Nat.le_refl _)
    clear hb1 hown1 hgrow1 hgrow2
    refine (name_any [63] w2).mono ?_
    rintro e w3 ⟨rfl, hb3⟩
    have hown3 := ownsRow_below hown2 hb3
    have hb3' := bthen hb2 hb3
    clear hown2 hb2 hb3
    go_wp2_with (at_builtin; refine wpList_append_fits _ rfl _ _ 27 rfl w.heap.size 23 i23 3 Try.underlying27 hi23 hz1 w.heap.size l.length (l.length + 1) (pcells l) (by first | rfl | (simp; done)) (hown3.alloc _) ⟨w3.heap.size, 0, none⟩ 1 1 (Pt.cells ⟨26, 0, [63]⟩) rfl rfl (World.news_of_block (cs := #[.int .u8 26, .int .i64 0, .string ⟨#[63]⟩]) (t := 23) (fr := (0, 0)) (heap_alloc_new w3 _)) (by simp [Pt.cells, Value.oneCell']) (by omega) ?_; intro w4 hown4 hgrow4)
    have hb4 : Below w.heap.size w w4 := (hb3'.alloc hb3'.size (Obj.cells #[.int .u8 26, .int .i64 0, .string ⟨#[63]⟩] 23)).grown hgrow4 (by have := hb3'.size; simp; omega) (fun k h => by cases h; exact Nat.le_refl _)
    clear hown3 hgrow4 hb3'
    have hGp : 0 < w.heap.size := World.pos_of_cell hm
    have hm4 : w4.cell? ⟨0, 0, none⟩ = some (.int .i64 m) := by rw [hb4.cell (p := ⟨0, 0, none⟩) hGp]; exact hm
    obtain ⟨G, hG⟩ : ∃ G, G = w.heap.size := ⟨_, rfl⟩
    rw [← hG] at hown4 ⊢
    have hGl := (hown4.lt G rfl).2
    have hP4 : PartsAt w4 (some ⟨G, 0, none⟩) l := .of_block hGl (fun j hj => by rw [World.ownsRow.cellAt hown4 j (by omega), List.getElem?_append_left (by rw [pcells_len]; exact hj)])
    have hq0 : w4.cell? ⟨G, l.length * 3, none⟩ = some (.int .u8 26) := by
      rw [World.ownsRow.cellAt hown4 _ (by omega), List.getElem?_append_right (by rw [pcells_len]; omega), pcells_len]; simp [Pt.cells]
    have hq1 : w4.cell? ⟨G, l.length * 3 + 1, none⟩ = some (.int .i64 0) := by
      rw [World.ownsRow.cellAt hown4 _ (by omega), List.getElem?_append_right (by rw [pcells_len]; omega), pcells_len]; simp [Pt.cells]
    have hq2 : w4.cell? ⟨G, l.length * 3 + 2, none⟩ = some (.string ⟨#[63]⟩) := by
      rw [World.ownsRow.cellAt hown4 _ (by omega), List.getElem?_append_right (by rw [pcells_len]; omega), pcells_len]; simp [Pt.cells]
    have HG := Lib.hid (And.intro hP4 (And.intro hq0 (And.intro hq1 (And.intro hq2 (And.intro hGl hG)))))
    have Hm := Lib.hid hm4
    have H4 := Lib.hid hb4
    clear hown4 hP4 hq0 hq1 hq2 hGl hm4 hm hGp hG hb4
    refine ((HPh.out (some ⟨G, 0, none⟩) (l.length + 1) m w4 HG.out.1 Hm.out).1).mono ?_
    rintro e w5 ⟨hb5, va, rfl, ho5⟩
    have hm5 := keepCell hb5 Hm.out
    go_wp2_with fail
    refine ((HPh.out (some ⟨G, 0, none⟩) (l.length + 1) m w5 (HG.out.1.later hb5) hm5).1).mono ?_
    rintro e w6 ⟨hb6, vb, rfl, ho6⟩
    have hm6 := keepCell hb6 hm5
    have hb46 := bthen hb5 hb6
    have ho56 := ownsRow_below ho5 hb6
    have hlva := ho5.lt
    obtain ⟨aa, ka, rfl⟩ := own_shape ho5
    have hST : Over w6 w4.heap.size (.slice aa po.length ka) po.length w6 (.int .i64 0) := ⟨0, _, rfl, by omega, ho56, World.grownBy.refl _ _⟩
    have HST := Lib.hid hST
    have H6 := Lib.hid (And.intro hm6 (And.intro hb46 (And.intro ho6 (And.intro hlva hb6.size))))
    clear hST hm5 hm6 hb46 ho56 hlva ho5 ho6 hb5 hb6
    go_wp2_with fail
    go_loopw [8] (fun u8 w' => Over w6 w4.heap.size (.slice aa po.length ka) po.length w' u8) (fun u8 _ => (po.length - intOf u8).toNat)
    case atStart => exact HST.out
    case round =>
      clear HST
      obtain ⟨i, xs, rfl, hil, hown, hgr⟩ := hrel
      by_cases hlt : i < po.length
      · have hdec : decide (i < po.length) = true := decide_eq_true hlt
        obtain ⟨ga, ka2, hva, _⟩ := hown.form (by omega)
        cases hva
        have b0 : (0 : Int) ≤ (i : Int) := by omega
        have b1 : (i : Int) < (po.length : Int) := by omega
        go_wp2_with fail
        refine (name_any [33] wr).mono ?_
        rintro e w8 ⟨rfl, hb8⟩
        have hown8 := ownsRow_below hown hb8
        have hxl : xs.length = po.length * 3 := hown8.1
        obtain ⟨x0, hx0⟩ : ∃ x, xs[i * 3]? = some x := ⟨_, List.getElem?_eq_getElem (by omega)⟩
        obtain ⟨x1, hx1⟩ : ∃ x, xs[i * 3 + 1]? = some x := ⟨_, List.getElem?_eq_getElem (by omega)⟩
        obtain ⟨x2, hx2⟩ : ∃ x, xs[i * 3 + 2]? = some x := ⟨_, List.getElem?_eq_getElem (by omega)⟩
        have c0 := (World.ownsRow.cellAt hown8 (i * 3) (by omega)).trans hx0
        have c1 := (World.ownsRow.cellAt hown8 (i * 3 + 1) (by omega)).trans hx1
        have c2 := (World.ownsRow.cellAt hown8 (i * 3 + 2) (by omega)).trans hx2
        have f0 := World.ownsRow.frozenAt hown8 (i * 3)
        have f1 := World.ownsRow.frozenAt hown8 (i * 3 + 1)
        have f2 := World.ownsRow.frozenAt hown8 (i * 3 + 2)
        clear hx0 hx1 hx2
        go_wp2_with fail
        go_roundw
        case rel =>
          have s0 := World.ownsRow.stored hown8 (i * 3) (.int .u8 26)
          have s1 := World.ownsRow.stored s0.1 (i * 3 + 1) (.int .i64 0)
          have s2 := World.ownsRow.stored s1.1 (i * 3 + 2) (.string ⟨#[33]⟩)
          have h8 : wr.grownBy w8 (some ga) := ⟨hb8.os, hb8.tape, hb8.output, hb8.size, fun k hk _ => hb8.block k hk⟩
          exact ⟨i + 1, _, by go_num, by omega, s2.1, (((hgr.trans h8).trans s0.2).trans s1.2).trans s2.2⟩
        case measure => simp only [intOf]; first | omega | (go_num; omega)
      · have hdec : decide (i < po.length) = false := decide_eq_false hlt
        clear hlt hil hown
        obtain ⟨hm6, hb46, ho6, hlva, h56⟩ := H6.out
        have hbr : Below w4.heap.size w4 wr := hb46.grown hgr hb46.size (fun k h => (hlva k h).1)
        have hor : wr.ownsRow w5.heap.size 23 3 vb po.length (pcells po) := ho6.kept hgr (by
          cases hv : vb.ownBlock with
          | none => exact .inl rfl
          | some k =>
            right; intro e
            have h1 := (hlva k e.symm).2
            have h2 := (ho6.lt k hv).1
            omega)
        have hmr := keepCell hbr Hm.out
        have hbw := bthen H4.out hbr
        obtain ⟨ab, kb, rfl, hab⟩ := own_parts hor
        have HAB := Lib.hid hab
        have HBR := Lib.hid (And.intro hbr hbw)
        clear hm6 hb46 ho6 hlva h56 hgr hor hab hbr
        go_wp2_with fail
        refine ((HPh.out a cap m wr (Hh.out.later hbw) hmr).2).mono ?_
        rintro e w9 ⟨hb9, vc, rfl, ho9⟩
        obtain ⟨ac, kc, rfl, hac⟩ := own_parts ho9
        have hm9 := keepCell hb9 hmr
        have hb49 := bthen HBR.out.1 hb9
        have g0 := keepCell hb49 HG.out.2.1
        have g1 := keepCell hb49 HG.out.2.2.1
        have g2 := keepCell hb49 HG.out.2.2.2.1
        have hPG := HG.out.1.later hb49
        have hPb := HAB.out.later hb9
        have hPl := Hh.out.later (bthen hbw hb9)
        have HF : ∀ w', Below w9.heap.size w9 w' → Calls Try.prog 7 #[] w' fun e w'' => e = .returned (.bool true) ∧ Below w'.heap.size w' w'' := fun w' hb => fixed_any m w' (keepCell hb hm9)
        have HS1 : ∀ w', Below w9.heap.size w9 w' → Calls Try.prog 14 #[.slice ab po.length kb, .slice ac po.length kc] w' fun e w'' => e = .returned (.bool true) ∧ Below w'.heap.size w' w'' := fun w' hb => by
          have := Same_gen ab ac kb kc po po w' (by omega) (hPb.later hb) (hac.later hb)
          rw [eqL_refl] at this; exact this
        have HS2 : ∀ w', Below w9.heap.size w9 w' → Calls Try.prog 14 #[.slice (some ⟨G, 0, none⟩) l.length (l.length + 1), .slice a l.length cap] w' fun e w'' => e = .returned (.bool true) ∧ Below w'.heap.size w' w'' := fun w' hb => by
          have := Same_gen (some ⟨G, 0, none⟩) a (l.length + 1) cap l l w' (by omega) (hPG.later hb) (hPl.later hb)
          rw [eqL_refl] at this; exact this
        have HS : ∀ w' v1 v2, ((v1 = Value.slice ab po.length kb ∧ v2 = Value.slice ac po.length kc) ∨ (v1 = Value.slice (some ⟨G, 0, none⟩) l.length (l.length + 1) ∧ v2 = Value.slice a l.length cap)) → Below w9.heap.size w9 w' →
            Calls Try.prog 14 #[v1, v2] w' fun e w'' => e = .returned (.bool true) ∧ Below w'.heap.size w' w'' := fun w' v1 v2 h hb => by
          rcases h with ⟨rfl, rfl⟩ | ⟨rfl, rfl⟩
          · exact HS1 w' hb
          · exact HS2 w' hb
        have H9 := Lib.hid (bthen hbw hb9)
        have b0 : (0 : Int) ≤ (l.length : Int) := by omega
        have b1 : (l.length : Int) ≤ ((l.length + 1 : Nat) : Int) := by omega
        have b2 : (l.length : Int) < ((l.length + 1 : Nat) : Int) := by omega
        have b3 : ¬ (l.length + 1 = 0) := by omega
        clear HS1 HS2
        generalize l.length + 1 = gc at *
        clear hm9 hb49 hPG hPb hPl hac ho9 hb9 hmr hbw
        go_wp2_with fail
        go_region_held3 (fun w' => w'.cell? ⟨G, l.length * 3, none⟩ = some (.int .u8 26) ∧ w'.cell? ⟨G, l.length * 3 + 1, none⟩ = some (.int .i64 0) ∧ w'.cell? ⟨G, l.length * 3 + 2, none⟩ = some (.string ⟨#[63]⟩) ∧ Below w9.heap.size w9 w')
          (first
            | (refine ⟨?_, ?_, ?_, ?_⟩
               all_goals first | assumption | exact (Below.refl _ _).drew)
            | (go_split_ands
               refine ⟨?_, ?_, ?_, ?_⟩
               all_goals first | exact keepCell hn (by assumption) | exact bthen (by assumption) hn))
          (first
            | (go_at_call 7; go_split_ands; refine (HF _ (by assumption)).mono ?_; rintro e w' ⟨rfl, hn⟩)
            | (go_at_call 17; go_split_ands; refine (name_any [63] _).mono ?_; rintro e w' ⟨rfl, hn⟩)
            | (go_at_call 14; go_split_ands; refine (HS _ _ _ (by first | exact .inl ⟨rfl, rfl⟩ | exact .inr ⟨rfl, rfl⟩) (by assumption)).mono ?_; rintro e w' ⟨rfl, hn⟩))
        go_wp2_with fail
        go_ret
        go_split_ands
        exact ⟨rfl, bthen H9.out (by assumption)⟩
  · have HFx := Lib.hid (fixed_any m w hm)
    have d1 : decide ((300 : Int) < (l.length : Int)) = true := decide_eq_true (by omega)
    clear h hw hm hl
    go_enter Try.func6, Try.ntmps6
    go_wp2_with fail
    refine HFx.out.mono ?_
    rintro e w1 ⟨rfl, hb1⟩
    go_wp2_with fail
    go_ret
    exact ⟨rfl, hb1⟩
end Go.Proofs.Ytgmkokophcmbnaa
