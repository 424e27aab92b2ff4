import Derived.Test.YtgmkokophcmbnaaXD
import Derived.Test.YtgmkokophcmbnaaV4
import Derived.Test.YtgmkokophcmbnaaV5
import Derived.BigQuiet
namespace Go.Proofs.Ytgmkokophcmbnaa
open Go.RowKit

/-- 0, 1, .. below i; nothing behind -/
def uptoN (n i : Nat) : List Int := (List.range n).map fun j => if j < i then (j : Int) else 0
theorem uptoN_len (n i : Nat) : (uptoN n i).length = n := by simp [uptoN]
theorem uptoN_zer (n : Nat) : zer n = zvs (uptoN n 0) := by
  apply List.ext_getElem?
  intro j
  by_cases hj : j < n
  · simp [zer, zvs, uptoN, hj]
  · rw [List.getElem?_eq_none (by simp [zer]; omega), List.getElem?_eq_none (by simp [zvs, uptoN]; omega)]
theorem uptoN_at (n i j : Nat) (h : j < n) : (zvs (uptoN n i))[j]? = some (.int .i64 (if j < i then (j : Int) else 0)) := by simp [zvs, uptoN, h]
theorem uptoN_set (n i : Nat) : (zvs (uptoN n i)).set i (.int .i64 (i : Int)) = zvs (uptoN n (i + 1)) := by
  apply List.ext_getElem?
  intro j
  by_cases hj : j < n
  · rw [uptoN_at _ _ _ hj, List.getElem?_set, uptoN_at _ _ _ hj]
    by_cases h : i = j
    · subst h; simp [zvs, uptoN, hj]
    · have e : (j < i + 1) = (j < i) := by apply propext; omega
      simp [h, e]
  · rw [List.getElem?_eq_none (by simp [zvs, uptoN]; omega), List.getElem?_eq_none (by simp [zvs, uptoN]; omega)]
theorem uptoN_get (n j : Nat) (h : j < n) : (uptoN n n).getD j 0 = (j : Int) := by simp [uptoN, List.getD, h]
/-- ahead of a round that fills -/
def Fill (w0 : World) (G n : Nat) (w' : World) (u4 : Value) : Prop :=
  ∃ i : Nat, u4 = .int .i64 (i : Int) ∧ i ≤ n ∧ w'.ownsRow G 3 1 (.slice (some ⟨G, 0, none⟩) n n) n (zvs (uptoN n i)) ∧ Below w0.heap.size w0 w'
/-- ahead of a round of the look -/
def Look (w0 : World) (l : List Pt) (O : List (Pt × Option Nat)) (w' : World) (u10 u11 : Value) : Prop :=
  ∃ i k : Nat, u11 = .int .i64 (i : Int) ∧ u10 = .int .i64 (k : Int) ∧ i ≤ O.length ∧ k ≤ l.length ∧ chk l (O.drop i) k = some l.length ∧ Below w0.heap.size w0 w'
theorem below_drewN {B : Nat} {a w : World} (h : Below B a w) (n : Nat) : Below B a (w.drewN n) := ⟨h.os, h.tape, h.output, h.size, h.block⟩
theorem chk_words (l : List Pt) : ∀ (o : List (Pt × Option Nat)) (k n : Nat), chk l o k = some n → ∀ x ∈ o, x.1 = paren ∨ x.1 ∈ l
  | [], _, _, _, x, hx => by cases hx
  | (p, none) :: r, k, n, h, x, hx => by
    simp only [chk] at h
    split at h
    · rename_i hp
      rcases List.mem_cons.1 hx with e | e
      · subst e; exact .inl hp
      · exact chk_words l r k n h x e
    · cases h
  | (p, some j) :: r, k, n, h, x, hx => by
    simp only [chk] at h
    split at h
    · rename_i hp
      rcases List.mem_cons.1 hx with e | e
      · subst e; exact .inr (List.mem_of_getElem? hp.2)
      · exact chk_words l r (k + 1) n h x e
    · cases h
theorem mem_atG {α : Type} {i : Nat} {l : List α} {q : α} {t : List α} (hd : l.drop i = q :: t) : l[i]? = some q ∧ i < l.length ∧ l.drop (i + 1) = t := by
  have hlq : l[i]? = some q := by
    have h0 : (l.drop i)[0]? = some q := by rw [hd]; rfl
    simpa using h0
  refine ⟨hlq, ?_, ?_⟩
  · rcases Nat.lt_or_ge i l.length with h | h
    · exact h
    · rw [List.getElem?_eq_none h] at hlq; cases hlq
  · have : l.drop (i + 1) = (l.drop i).drop 1 := by rw [List.drop_drop]
    rw [this, hd]; rfl
set_option maxHeartbeats 4000000 in
theorem twice_walk (a : Option Addr) (cap : Nat) (l : List Pt) (m : Int) (w : World) (hl : l.length ≤ 1048576) (hw : ∀ q ∈ l, q.w.length ≤ 1125899906842624) (h : PartsAt w a l) (hm : w.cell? ⟨0, 0, none⟩ = some (.int .i64 m)) :
    Calls Try.prog 5 #[.slice a l.length cap] w fun e w' => e = .returned (.bool true) ∧ Below w.heap.size w w' := by
  obtain ⟨i3, hi3, hz3, hz4, hz5⟩ := info_parts Try.info3
  have Hh := Lib.hid h
  have Hm := Lib.hid hm
  have Hw := Lib.hid hw
  clear h hm hw
  go_enter Try.func5, Try.ntmps5
  go_wp2_with (refine wpList_make_full _ rfl _ _ 28 rfl w.heap.size 3 i3 (.int .i64 0) 1 Try.underlying28 hi3 hz3 hz4 .i64 .i64 l.length l.length l.length rfl rfl rfl rfl (by rw [hz5]; omega) (by unfold maxLen; omega) (Nat.le_refl _) ?_; intro w1 hown hgrow)
  have hST : Fill w w.heap.size l.length w1 (.int .i64 0) := ⟨0, rfl, by omega, by rw [made_zer, uptoN_zer] at hown; exact hown, (Below.refl _ _).grown hgrow (Nat.le_refl _) (fun k h => by cases h)⟩
  have HST := Lib.hid hST
  clear hST hown hgrow
  obtain ⟨G, hG⟩ : ∃ G, G = w.heap.size := ⟨_, rfl⟩
  rw [← hG] at HST ⊢
  have HGe := Lib.hid hG
  clear hG
  go_loopw [4] (fun u4 w' => Fill w G l.length w' u4) (fun u4 _ => (l.length - intOf u4).toNat)
  case atStart => exact HST.out
  case round =>
    clear HST
    obtain ⟨i, rfl, hil, hown, hbel⟩ := hrel
    by_cases hlt : i < l.length
    · have hdec : decide (i < l.length) = true := decide_eq_true hlt
      obtain ⟨old, hcA⟩ : ∃ old, wr.cell? ⟨G, i, none⟩ = some old := ⟨_, (World.ownsRow.cellAt hown i (by omega)).trans (uptoN_at _ _ _ hlt)⟩
      have hfA := World.ownsRow.frozenAt hown i
      have b0 : (0 : Int) ≤ (i : Int) := by omega
      have b1 : (i : Int) < (l.length : Int) := by omega
      go_wp2_with fail
      have hst := World.ownsRow.stored hown i (.int .i64 (i : Int))
      rw [uptoN_set] at hst
      go_roundw
      case rel => exact ⟨i + 1, by go_num, by omega, hst.1, hbel.grown hst.2 (by have := hbel.size; omega) (fun k h => by cases h; have := HGe.out; omega)⟩
      case measure => simp only [intOf]; first | omega | (go_num; omega)
    · have hdec : decide (i < l.length) = false := decide_eq_false hlt
      have hii : i = l.length := by omega
      rw [hii] at hown
      clear hlt hil
      go_wp2_with fail
      have hlt1 := hown.lt G rfl
      have hIn : IntsAt wr (some ⟨G, 0, none⟩) (uptoN l.length l.length) := by
        refine .inr ⟨G, 0, rfl, hlt1.2, fun j x hj => ?_⟩
        have hjn : j < l.length := by
          rcases Nat.lt_or_ge j l.length with h | h
          · exact h
          · rw [List.getElem?_eq_none (by rw [uptoN_len]; exact h)] at hj; cases hj
        rw [Nat.zero_add, World.ownsRow.cellAt hown j (by omega), uptoN_at _ _ _ hjn]
        simp only [uptoN, List.getElem?_map, List.getElem?_range hjn, Option.map_some, Option.some.injEq] at hj
        rw [hj]
      have h0G : 0 < w.heap.size := World.pos_of_cell Hm.out
      have hm1 : wr.cell? ⟨0, 0, none⟩ = some (.int .i64 m) := by rw [hbel.cell (p := ⟨0, 0, none⟩) h0G]; exact Hm.out
      have hL1 : PartsAt wr a l := Hh.out.later hbel
      have HIn := Lib.hid hIn
      have HL1 := Lib.hid hL1
      clear hIn hL1 hown hlt1 h0G hdec hii
      cases hb : wellL (l.map Pt.n) with
      | false =>
        have hW := With_bad a (some ⟨G, 0, none⟩) cap l.length l (uptoN l.length l.length) wr (by omega) HL1.out hb
        rw [uptoN_len] at hW
        have HW := Lib.hid hW
        have HB := Lib.hid hb
        clear hW hb
        refine HW.out.mono ?_
        rintro e w2 ⟨rfl, hb2⟩
        have hm2 := keepCell hb2 hm1
        go_wp2_with fail
        refine (fixed_any m w2 hm2).mono ?_
        rintro e w3 ⟨rfl, hb3⟩
        have hm3 := keepCell hb3 hm2
        go_wp2_with fail
        refine (fixed_any m w3 hm3).mono ?_
        rintro e w4 ⟨rfl, hb4⟩
        have hm4 := keepCell hb4 hm3
        have hb24 := bthen hb2 (bthen hb3 hb4)
        have hwl := Well_gen a cap l w4 (by omega) (HL1.out.later hb24)
        rw [HB.out] at hwl
        have HWL := Lib.hid hwl
        clear hwl hm1 hm2 hm3 hm4
        go_wp2_with fail
        refine HWL.out.mono ?_
        rintro e w5 ⟨rfl, hb5⟩
        go_wp2_with fail
        go_ret
        exact ⟨rfl, bthen hbel (bthen hb24 hb5)⟩
      | true =>
        obtain ⟨q, k, hq, hk, hg⟩ := well_forest l hb
        have hs : l.length = 1 + k.size := by rw [hq, List.length_cons, Fo.flat_len]; omega
        obtain ⟨O, hO⟩ : ∃ O, O = guardO q k := ⟨_, rfl⟩
        have hOl : O.length ≤ 2097152 := by have := guardO_len q k; rw [hO]; omega
        obtain ⟨A, hA⟩ : ∃ A, A = ptsOf O := ⟨_, rfl⟩
        obtain ⟨X, hX⟩ : ∃ X, X = numsOf (uptoN l.length l.length) O := ⟨_, rfl⟩
        have hAO : A.length = O.length := by rw [hA]; simp [ptsOf]
        have hXA : X.length = A.length := by rw [hX, hAO]; simp [numsOf]
        have hAl : A.length ≤ 2097152 := by omega
        have hAf : A = q :: (gf k q 0).flat := by rw [hA, hO, guardO, gf_flat k q 0 1]; rfl
        have hAg : ptsOf (guardO q (gf k q 0)) = A := by rw [hAf, guardO]; exact congrArg (q :: ·) (gf_again k q 0 1)
        have hAw : ∀ p ∈ A, p.w.length ≤ 1125899906842624 := by
          intro p hp
          rw [hA, ptsOf] at hp
          obtain ⟨x, hx, rfl⟩ := List.mem_map.1 hp
          have hc : chk l O 0 = some l.length := by rw [hO, hq]; exact chk_tree q k
          rcases chk_words l O 0 _ hc x hx with e | e
          · rw [e]; decide
          · exact Hw.out _ e
        have hAk : ((gf k q 0).count : Int) = q.n := by rw [gf_count]; exact hk
        have hAgd := gf_good k q 0 hg
        have hAwl : wellL (A.map Pt.n) = true := by rw [hAf]; exact tree_well q _ hAk hAgd
        have hchk : chk l O 0 = some l.length := by rw [hO, hq]; exact chk_tree q k
        have hW0 := With_ok a (some ⟨G, 0, none⟩) cap l.length q k m l (uptoN l.length l.length) wr (by omega) Hw.out HL1.out HIn.out hm1 hb (uptoN_len _ _) hq hk hg
        rw [uptoN_len] at hW0
        have hW : Calls Try.prog 10 #[.slice a l.length cap, .slice (some ⟨G, 0, none⟩) l.length l.length] wr (WithPost 0 A X wr) := by
          rw [hX, hA, hO]; exact hW0
        clear hW0
        have HW := Lib.hid hW
        have HA := Lib.hid (And.intro hAf (And.intro hAg (And.intro hAw (And.intro hAk (And.intro hAgd (And.intro hAwl (And.intro hchk (And.intro hA hX))))))))
        have HLen := Lib.hid (And.intro hAO hXA)
        clear hAO hXA
        clear hW hb hq hk hg hs hO hA hX hAf hAg hAw hAk hAgd hAwl hchk
        refine HW.out.mono ?_
        rintro e w2 ⟨hb2, vo, vn, rfl, ho, hn⟩
        have hm2 := keepCell hb2 hm1
        obtain ⟨a1, k1, rfl, ha1⟩ := own_parts ho
        obtain ⟨x1, j1, hvn, hx1⟩ := own_ints hn
        rw [HLen.out.2] at hvn
        subst hvn
        have H1 := Lib.hid (And.intro ha1 hx1)
        clear ho hn ha1 hx1 HW
        go_wp2_with fail
        refine (fixed_any m w2 hm2).mono ?_
        rintro e w3 ⟨rfl, hb3⟩
        have hm3 := keepCell hb3 hm2
        go_wp2_with fail
        have hP0 := Put_ok a1 k1 q (gf k q 0) m A w3 (by omega) HA.out.2.2.1 (H1.out.1.later hb3) hm3 HA.out.2.2.2.2.2.1 HA.out.1 HA.out.2.2.2.1 HA.out.2.2.2.2.1
        have hP : Calls Try.prog 12 #[.slice a1 A.length k1] w3 (PutPost 0 A w3) := hP0.mono fun e w' h => by
          rw [PutOk, HA.out.2.1] at h; exact h
        refine hP.mono ?_
        rintro e w4 ⟨hb4, vo2, rfl, ho2⟩
        obtain ⟨a2, k2, rfl, ha2⟩ := own_parts ho2
        have hb34 := bthen hb3 hb4
        have H2 := Lib.hid ha2
        clear hP hP0 ho2 ha2 hm2 hm3
        go_wp2_with fail
        refine (Same_gen a1 a2 k1 k2 A A w4 (by omega) (H1.out.1.later hb34) H2.out).mono ?_
        rintro e w5 ⟨rfl, hb5⟩
        rw [(eqL_iff A A).2 rfl]
        have hb35 := bthen hb34 hb5
        have hwl := Well_gen a1 k1 A w5 (by omega) (H1.out.1.later hb35)
        rw [HA.out.2.2.2.2.2.1] at hwl
        have HWL := Lib.hid hwl
        clear hwl
        go_wp2_with fail
        refine HWL.out.mono ?_
        rintro e w6 ⟨rfl, hb6⟩
        have hb26 := bthen hb35 hb6
        have H3 := Lib.hid (And.intro (H1.out.1.later hb26) (And.intro (H1.out.2.later hb26) (HL1.out.later (bthen hb2 hb26))))
        have hball := bthen hbel (bthen hb2 hb26)
        have HST : RowKit.Hid (Look w6 l O w6 (.int .i64 0) (.int .i64 0)) := Lib.hid ⟨0, 0, rfl, rfl, by omega, by omega, HA.out.2.2.2.2.2.2.1, Below.refl _ _⟩
        clear H1 H2 HWL hb2 hb3 hb4 hb5 hb6 hb34 hb35 hb26 hm1
        go_wp2_with fail
        go_loopw [10, 11] (fun u10 u11 w' => Look w6 l O w' u10 u11) (fun _ u11 _ => (A.length - intOf u11).toNat)
        case atStart => exact HST.out
        case round =>
          clear HST
          obtain ⟨i, k', rfl, rfl, hil, hkl, hchk, hbel2⟩ := hrel
          cases hd : O.drop i with
          | nil =>
            have hge : O.length ≤ i := by simpa using hd
            have hdec : decide (i < A.length) = false := decide_eq_false (by have := HLen.out.1; omega)
            rw [hd, chk] at hchk
            simp only [Option.some.injEq] at hchk
            subst hchk
            clear hd hge hil hkl
            go_wp2_with fail
            go_ret
            exact ⟨by first | rfl | simp, bthen hball hbel2⟩
          | cons x t =>
            obtain ⟨p, o⟩ := x
            obtain ⟨hOi, hilt, hdn⟩ := mem_atG hd
            have hdec : decide (i < A.length) = true := decide_eq_true (by have := HLen.out.1; omega)
            have hAi : A[i]? = some p := by rw [HA.out.2.2.2.2.2.2.2.1]; simp [ptsOf, hOi]
            have hXi : X[i]? = some (numOf (uptoN l.length l.length) o) := by rw [HA.out.2.2.2.2.2.2.2.2]; simp [numsOf, hOi]
            obtain ⟨ab, aoff, rfl, _, hac⟩ := (H3.out.1.later hbel2).resolve_left (fun e => by rw [e] at hAi; cases hAi)
            obtain ⟨xb, xoff, rfl, _, hxc⟩ := (H3.out.2.1.later hbel2).resolve_left (fun e => by rw [e] at hXi; cases hXi)
            obtain ⟨c0, c1, c2⟩ := hac i p hAi
            have cx := hxc i _ hXi
            have b0 : (0 : Int) ≤ (i : Int) := by omega
            have b1 : (i : Int) < (A.length : Int) := by have := HLen.out.1; omega
            rw [hd] at hchk
            clear hac hxc hAi hXi hOi hd
            cases o with
            | none =>
              rw [chk] at hchk
              split at hchk
              · rename_i hp
                subst hp
                replace c0 : wr.cell? ⟨ab, aoff + i * 3, none⟩ = some (.int .u8 28) := c0
                replace c1 : wr.cell? ⟨ab, aoff + i * 3 + 1, none⟩ = some (.int .i64 1) := c1
                replace c2 : wr.cell? ⟨ab, aoff + i * 3 + 2, none⟩ = some (.string ⟨#[]⟩) := c2
                replace cx : wr.cell? ⟨xb, xoff + i, none⟩ = some (.int .i64 (-1)) := cx
                have HC := Lib.hid (And.intro hchk hdn)
                clear hchk hdn
                go_wp2_with fail
                go_roundw
                case rel => exact ⟨i + 1, k', by go_num, rfl, by omega, hkl, by rw [HC.out.2]; exact HC.out.1, hbel2⟩
                case measure => simp only [intOf]; first | omega | (go_num; omega)
              · cases hchk
            | some j =>
              rw [chk] at hchk
              split at hchk
              · rename_i hp
                obtain ⟨rfl, hlk⟩ := hp
                have hkn : j < l.length := by
                  rcases Nat.lt_or_ge j l.length with h | h
                  · exact h
                  · rw [List.getElem?_eq_none h] at hlk; cases hlk
                rw [numOf, uptoN_get _ _ hkn] at cx
                obtain ⟨lb, loff, rfl, _, hlc⟩ := (H3.out.2.2.later hbel2).resolve_left (fun e => by rw [e] at hlk; cases hlk)
                obtain ⟨d0, d1, d2⟩ := hlc j p hlk
                have b2 : (0 : Int) ≤ (j : Int) := by omega
                have b3 : (j : Int) < (l.length : Int) := by omega
                have n1 : ((j : Int) == -1) = false := by rw [beq_eq_false_iff_ne]; omega
                have n2 : ((j : Int) == (l.length : Int)) = false := by rw [beq_eq_false_iff_ne]; omega
                have HC := Lib.hid (And.intro hchk hdn)
                clear hchk hdn hlc hlk
                go_wp2_with fail
                go_quiet (fail)
                go_wp2_with fail
                go_roundw
                case rel => exact ⟨i + 1, j + 1, by go_num, by go_num, by omega, by omega, by rw [HC.out.2]; exact HC.out.1, below_drewN hbel2 _⟩
                case measure => simp only [intOf]; have := HLen.out.1; first | omega | (go_num; omega)
              · cases hchk
end Go.Proofs.Ytgmkokophcmbnaa
