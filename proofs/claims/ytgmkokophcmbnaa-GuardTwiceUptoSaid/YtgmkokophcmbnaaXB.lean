import Derived.Test.YtgmkokophcmbnaaXA
namespace Go.Proofs.Ytgmkokophcmbnaa
open Go.RowKit

set_option maxHeartbeats 8000000 in
theorem WithR_ok (a fa : Option Addr) (cap fcap : Nat) (q0 : Pt) (k0 : Fo) (l : List Pt) (fr : List Int) (w : World) (hl : l.length ≤ 300) (h : PartsAt w a l)
    (hf : IntsAt w fa fr) (hb : wellL (l.map Pt.n) = true) (hlen : fr.length = l.length) (hq : l = q0 :: k0.flat) (hk : (k0.count : Int) = q0.n) (hg : k0.good) :
    Calls Try.prog 11 #[.slice a l.length cap, .slice fa fr.length fcap] w (WithOk q0 k0 fr w) := by
  obtain ⟨i23, hi23, hz0, hz1, hz2⟩ := info_parts Try.info23
  obtain ⟨i3, hi3, hz3, hz4, hz5⟩ := info_parts Try.info3
  obtain ⟨i4, hi4, hz6, hz7, hz8⟩ := info_parts Try.info4
  have HE := Lib.hid (WellR_gen a cap l w hl h)
  rw [hb] at HE
  have hl0 : l ≠ [] := by rw [hq]; simp
  have hf0 : fr ≠ [] := fun e => by rw [e] at hlen; exact hl0 (List.eq_nil_of_length_eq_zero hlen.symm)
  obtain ⟨b, off, rfl, hbs, hcb⟩ := h.resolve_left hl0
  obtain ⟨fb, foff, rfl, hfs, hcf⟩ := hf.resolve_left hf0
  have HL := Lib.hid hlen
  rw [hlen]
  have hd : ((l.length : Int) == (l.length : Int)) = true := by simp
  have HQ := Lib.hid (And.intro hq (And.intro hk hg))
  have HP := Lib.hid hcb
  have HF := Lib.hid hcf
  clear h hf hl0 hf0 hlen hq hk hg hcb hcf hb
  go_enter Try.func11, Try.ntmps11
  go_wp2_with fail
  refine HE.out.mono ?_
  rintro e w1 ⟨rfl, hb1⟩
  clear HE
  go_wp2_with (refine wpList_make_full _ rfl _ _ 44 rfl w1.heap.size 4 i4 (.bool false) 1 Try.underlying44 hi4 hz6 hz7 .i64 .i64 l.length l.length l.length rfl rfl rfl rfl (by rw [hz8]; omega) (by unfold maxLen; omega) (Nat.le_refl _) ?_; intro w2 hown hgrow)
  rw [made_bls] at hown
  have hN : w.heap.size ≤ w1.heap.size := hb1.size
  have hST : With1 w w1.heap.size l (finF q0 k0) w2 (.int .i64 0) :=
    ⟨.cons q0 k0 .nil, 0, fun _ => false, rfl, ⟨HQ.out.2.1, HQ.out.2.2, trivial⟩, by rw [List.drop_zero, HQ.out.1]; simp [Fo.flat], rfl, hown, hb1.grown hgrow hb1.size (fun k h => by cases h)⟩
  clear hown hgrow hb1
  generalize hNN : w1.heap.size = N at *
  clear hNN
  have HST := Lib.hid hST
  clear hST
  go_loopw [8, 9, 10] (fun u8 _ _ w' => With1 w N l (finF q0 k0) w' u8) (fun u8 _ _ _ => (l.length - intOf u8).toNat)
  case atStart => exact HST.out
  case round =>
    clear HST
    obtain ⟨f, i, B, rfl, hgood, hdrop, hrun, hM, hbel⟩ := hrel
    cases f with
    | nil =>
      have hdec : decide (i < l.length) = false := decide_eq_false (by
        have : l.length ≤ i := by simpa [Fo.flat] using hdrop
        omega)
      have hB : B = finF q0 k0 := hrun
      subst hB
      have hST3 : With3 w N l fr (finF q0 k0) (guardO q0 k0) wr (.slice none 0 0) (.slice none 0 0) (.int .i64 0) :=
        ⟨0, [], rfl, by omega, by rw [List.drop_zero, HQ.out.1, List.nil_append]; exact outG_guard q0 k0, by simp, ⟨World.ownsRow_nil _ _ _ _, World.ownsRow_nil _ _ _ _, fun g h => by cases h⟩, hM, hbel⟩
      have HST := Lib.hid hST3
      clear hdrop hgood hrun hM hbel hST3
      go_wp2_with fail
      go_loopw [11, 12, 13] (fun u11 u12 u13 w' => With3 w N l fr (finF q0 k0) (guardO q0 k0) w' u11 u12 u13) (fun _ _ u13 _ => (l.length - intOf u13).toNat)
      case atStart => exact HST.out
      case round =>
        clear HST hdec
        obtain ⟨i, done, rfl, hil, htot, hdl, hTw, hM, hbel⟩ := hrel
        cases hd : l.drop i with
        | nil =>
          have hge : l.length ≤ i := by simpa using hd
          have hdec : decide (i < l.length) = false := decide_eq_false (by omega)
          rw [hd, outG, List.append_nil] at htot
          subst htot
          clear hd hdl hge
          go_wp2_with fail
          go_ret3
          exact ⟨hbel, _, _, rfl, hTw.own.mono (by omega), by simpa [ptsOf, numsOf] using hTw.onn.mono (by omega)⟩
        | cons p t =>
          obtain ⟨hlp, hilt, hdn⟩ := mem_at hd
          have hdec : decide (i < l.length) = true := decide_eq_true hilt
          rw [hd, outG] at htot
          obtain ⟨y, hy⟩ : ∃ y, fr[i]? = some y := ⟨fr[i]'(by rw [HL.out]; exact hilt), List.getElem?_eq_getElem _⟩
          obtain ⟨p0, p1, p2⟩ := HP.out i p hlp
          have py := HF.out i y hy
          have hcM := hM.cell i hilt
          have b0 : (0 : Int) ≤ (i : Int) := by omega
          have b1 : (i : Int) < (l.length : Int) := by omega
          have hnum : numOf fr (some i) = y := by simp [numOf, List.getD, hy]
          obtain ⟨O, hO⟩ : ∃ O, O = ptsOf done := ⟨_, rfl⟩
          obtain ⟨Z, hZ⟩ : ∃ Z, Z = numsOf fr done := ⟨_, rfl⟩
          rw [← hO, ← hZ] at hTw
          have hOl : O.length ≤ 600 := by rw [hO]; simp [ptsOf]; omega
          have hZl : Z.length ≤ 600 := by rw [hZ]; simp [numsOf]; omega
          generalize hx : finF q0 k0 i = x at hcM htot
          have HT := Lib.hid (And.intro htot (And.intro hdn (And.intro hnum (And.intro hO (And.intro hZ hdl)))))
          clear htot hdn hnum hO hZ hd hy hdl hlp
          cases x with
          | true =>
            have hown := hTw.own
            have hbz : N + 1 ≤ (wr.alloc (Obj.cells #[.int .u8 28, .int .i64 1, .string ⟨#[]⟩] 23)).heap.size := by have := hM.lt; simp; omega
            go_wp2_with (at_builtin; refine wpList_append_own_at _ rfl (.tmp 69) (.tmp 71) 27 rfl (N + 1) 23 i23 _ 3 32 Try.underlying27 hi23 hz0 hz1 hz2 rfl (by omega) _ _ _ rfl (hown.alloc _) ⟨wr.heap.size, 0, none⟩ 1 1 (Pt.cells paren) rfl rfl (World.news_of_block (cs := #[.int .u8 28, .int .i64 1, .string ⟨#[]⟩]) (t := 23) (fr := (0, 0)) (heap_alloc_new wr _)) (by simp [Pt.cells, paren, Value.oneCell']) (by unfold maxLen; omega) (by omega) hbz ?_)
            intro v3 w3 hown1 hgrow1 _ hat1
            have hB1 := (Below.refl wr.heap.size wr).alloc (Nat.le_refl _) (Obj.cells #[.int .u8 28, .int .i64 1, .string ⟨#[]⟩] 23)
            have hTw1 := (hTw.later hB1).outed (p := paren) (by first | exact hown1 | (rw [List.length_append]; exact hown1)) hgrow1 (hat1.imp id (fun e => by rw [e]; simp))
            have hM1 := (hM.later hB1).grown hgrow1 (fun e => by have := (hown.lt _ e).1; omega)
            have hbel1 := (hbel.alloc hbel.size (Obj.cells #[.int .u8 28, .int .i64 1, .string ⟨#[]⟩] 23)).grown hgrow1 (by have := hbel.size; simp; omega) (fun k h => by have := (hown.lt k h).1; omega)
            replace hTw := hTw1
            replace hM := hM1
            replace hbel := hbel1
            clear hown hbz hown1 hgrow1 hat1 hB1
            clear hTw1 hM1 hbel1
            clear hcM
            have hown := hTw.onn
            have hbz : N + 1 ≤ (w3.alloc (Obj.cells #[.int .i64 (-1)] 3)).heap.size := by have := hM.lt; simp; omega
            go_wp2_with (at_builtin; refine wpList_append_own_at _ rfl (.tmp 73) (.tmp 74) 28 rfl (N + 1) 3 i3 _ 1 8 Try.underlying28 hi3 hz3 hz4 hz5 rfl (by omega) _ _ _ rfl (hown.alloc _) ⟨w3.heap.size, 0, none⟩ 1 1 [.int .i64 (-1)] rfl rfl (World.news_of_block (cs := #[.int .i64 (-1)]) (t := 3) (fr := (0, 0)) (heap_alloc_new w3 _)) (one_int _ _) (by unfold maxLen; omega) (by omega) hbz ?_)
            intro v4 w4 hown1 hgrow1 _ hat1
            have hB1 := (Below.refl w3.heap.size w3).alloc (Nat.le_refl _) (Obj.cells #[.int .i64 (-1)] 3)
            have hTw1 := (hTw.later hB1).numbered (x := -1) (by first | exact hown1 | (rw [List.length_append]; exact hown1)) hgrow1 (hat1.imp id (fun e => by rw [e]; simp))
            have hM1 := (hM.later hB1).grown hgrow1 (fun e => by have := (hown.lt _ e).1; omega)
            have hbel1 := (hbel.alloc hbel.size (Obj.cells #[.int .i64 (-1)] 3)).grown hgrow1 (by have := hbel.size; simp; omega) (fun k h => by have := (hown.lt k h).1; omega)
            replace hTw := hTw1
            replace hM := hM1
            replace hbel := hbel1
            clear hown hbz hown1 hgrow1 hat1 hB1
            clear hTw1 hM1 hbel1
            have hOl : (O ++ [paren]).length ≤ 601 := by simp; omega
            have hZl : (Z ++ [(-1 : Int)]).length ≤ 601 := by simp; omega
            have c0 : w4.cell? ⟨b, off + i * 3, none⟩ = some (.int .u8 (p.k.toNat : Int)) := by rw [hbel.cell (p := ⟨b, off + i * 3, none⟩) hbs]; exact p0
            have c1 : w4.cell? ⟨b, off + i * 3 + 1, none⟩ = some (.int .i64 p.n) := by rw [hbel.cell (p := ⟨b, off + i * 3 + 1, none⟩) hbs]; exact p1
            have c2 : w4.cell? ⟨b, off + i * 3 + 2, none⟩ = some (.string ⟨p.w.toArray⟩) := by rw [hbel.cell (p := ⟨b, off + i * 3 + 2, none⟩) hbs]; exact p2
            clear p0 p1 p2
            have hown := hTw.own
            have hbz : N + 1 ≤ (w4.alloc (Obj.cells #[.int .u8 (p.k.toNat : Int), .int .i64 p.n, .string ⟨p.w.toArray⟩] 23)).heap.size := by have := hM.lt; simp; omega
            go_wp2_with (at_builtin; refine wpList_append_own_at _ rfl (.tmp 76) (.tmp 81) 27 rfl (N + 1) 23 i23 _ 3 32 Try.underlying27 hi23 hz0 hz1 hz2 rfl (by omega) _ _ _ rfl (hown.alloc _) ⟨w4.heap.size, 0, none⟩ 1 1 (Pt.cells p) rfl rfl (World.news_of_block (cs := #[.int .u8 (p.k.toNat : Int), .int .i64 p.n, .string ⟨p.w.toArray⟩]) (t := 23) (fr := (0, 0)) (heap_alloc_new w4 _)) (by simp [Pt.cells, Value.oneCell']) (by unfold maxLen; omega) (by omega) hbz ?_)
            intro v5 w5 hown1 hgrow1 _ hat1
            have hB1 := (Below.refl w4.heap.size w4).alloc (Nat.le_refl _) (Obj.cells #[.int .u8 (p.k.toNat : Int), .int .i64 p.n, .string ⟨p.w.toArray⟩] 23)
            have hTw1 := (hTw.later hB1).outed (p := p) (by first | exact hown1 | (rw [List.length_append]; exact hown1)) hgrow1 (hat1.imp id (fun e => by rw [e]; simp))
            have hM1 := (hM.later hB1).grown hgrow1 (fun e => by have := (hown.lt _ e).1; omega)
            have hbel1 := (hbel.alloc hbel.size (Obj.cells #[.int .u8 (p.k.toNat : Int), .int .i64 p.n, .string ⟨p.w.toArray⟩] 23)).grown hgrow1 (by have := hbel.size; simp; omega) (fun k h => by have := (hown.lt k h).1; omega)
            replace hTw := hTw1
            replace hM := hM1
            replace hbel := hbel1
            clear hown hbz hown1 hgrow1 hat1 hB1
            clear hTw1 hM1 hbel1
            have d0 : w5.cell? ⟨fb, foff + i, none⟩ = some (.int .i64 y) := by rw [hbel.cell (p := ⟨fb, foff + i, none⟩) hfs]; exact py
            clear c0 c1 c2 py
            have hown := hTw.onn
            have hbz : N + 1 ≤ (w5.alloc (Obj.cells #[.int .i64 y] 3)).heap.size := by have := hM.lt; simp; omega
            go_wp2_with (at_builtin; refine wpList_append_own_at _ rfl (.tmp 83) (.tmp 88) 28 rfl (N + 1) 3 i3 _ 1 8 Try.underlying28 hi3 hz3 hz4 hz5 rfl (by omega) _ _ _ rfl (hown.alloc _) ⟨w5.heap.size, 0, none⟩ 1 1 [.int .i64 y] rfl rfl (World.news_of_block (cs := #[.int .i64 y]) (t := 3) (fr := (0, 0)) (heap_alloc_new w5 _)) (one_int _ _) (by unfold maxLen; omega) (by omega) hbz ?_)
            intro v6 w6 hown1 hgrow1 _ hat1
            have hB1 := (Below.refl w5.heap.size w5).alloc (Nat.le_refl _) (Obj.cells #[.int .i64 y] 3)
            have hTw1 := (hTw.later hB1).numbered (x := y) (by first | exact hown1 | (rw [List.length_append]; exact hown1)) hgrow1 (hat1.imp id (fun e => by rw [e]; simp))
            have hM1 := (hM.later hB1).grown hgrow1 (fun e => by have := (hown.lt _ e).1; omega)
            have hbel1 := (hbel.alloc hbel.size (Obj.cells #[.int .i64 y] 3)).grown hgrow1 (by have := hbel.size; simp; omega) (fun k h => by have := (hown.lt k h).1; omega)
            replace hTw := hTw1
            replace hM := hM1
            replace hbel := hbel1
            clear hown hbz hown1 hgrow1 hat1 hB1
            clear hTw1 hM1 hbel1
            go_wp2_with fail
            go_roundw
            case rel =>
              obtain ⟨g1, g2, g3, g4, g5, g6⟩ := HT.out
              refine ⟨i + 1, done ++ [(paren, none), (p, some i)], by go_num, by omega, by rw [g2, ← g1]; simp, by simp; omega, ?_, hM, hbel⟩
              have e1 : ptsOf (done ++ [(paren, none), (p, some i)]) = O ++ [paren] ++ [p] := by rw [g4]; simp [ptsOf]
              have e2 : numsOf fr (done ++ [(paren, none), (p, some i)]) = Z ++ [(-1 : Int)] ++ [y] := by rw [g5, ← g3]; simp [numsOf, numOf]
              rw [e1, e2]; exact hTw
            case measure => simp only [intOf]; first | omega | (go_num; omega)
          | false =>
            have c0 : wr.cell? ⟨b, off + i * 3, none⟩ = some (.int .u8 (p.k.toNat : Int)) := by rw [hbel.cell (p := ⟨b, off + i * 3, none⟩) hbs]; exact p0
            have c1 : wr.cell? ⟨b, off + i * 3 + 1, none⟩ = some (.int .i64 p.n) := by rw [hbel.cell (p := ⟨b, off + i * 3 + 1, none⟩) hbs]; exact p1
            have c2 : wr.cell? ⟨b, off + i * 3 + 2, none⟩ = some (.string ⟨p.w.toArray⟩) := by rw [hbel.cell (p := ⟨b, off + i * 3 + 2, none⟩) hbs]; exact p2
            clear p0 p1 p2
            have hown := hTw.own
            have hbz : N + 1 ≤ (wr.alloc (Obj.cells #[.int .u8 (p.k.toNat : Int), .int .i64 p.n, .string ⟨p.w.toArray⟩] 23)).heap.size := by have := hM.lt; simp; omega
            go_wp2_with (at_builtin; refine wpList_append_own_at _ rfl (.tmp 76) (.tmp 81) 27 rfl (N + 1) 23 i23 _ 3 32 Try.underlying27 hi23 hz0 hz1 hz2 rfl (by omega) _ _ _ rfl (hown.alloc _) ⟨wr.heap.size, 0, none⟩ 1 1 (Pt.cells p) rfl rfl (World.news_of_block (cs := #[.int .u8 (p.k.toNat : Int), .int .i64 p.n, .string ⟨p.w.toArray⟩]) (t := 23) (fr := (0, 0)) (heap_alloc_new wr _)) (by simp [Pt.cells, Value.oneCell']) (by unfold maxLen; omega) (by omega) hbz ?_)
            intro v5 w5 hown1 hgrow1 _ hat1
            have hB1 := (Below.refl wr.heap.size wr).alloc (Nat.le_refl _) (Obj.cells #[.int .u8 (p.k.toNat : Int), .int .i64 p.n, .string ⟨p.w.toArray⟩] 23)
            have hTw1 := (hTw.later hB1).outed (p := p) (by first | exact hown1 | (rw [List.length_append]; exact hown1)) hgrow1 (hat1.imp id (fun e => by rw [e]; simp))
            have hM1 := (hM.later hB1).grown hgrow1 (fun e => by have := (hown.lt _ e).1; omega)
            have hbel1 := (hbel.alloc hbel.size (Obj.cells #[.int .u8 (p.k.toNat : Int), .int .i64 p.n, .string ⟨p.w.toArray⟩] 23)).grown hgrow1 (by have := hbel.size; simp; omega) (fun k h => by have := (hown.lt k h).1; omega)
            replace hTw := hTw1
            replace hM := hM1
            replace hbel := hbel1
            clear hown hbz hown1 hgrow1 hat1 hB1
            clear hTw1 hM1 hbel1
            have d0 : w5.cell? ⟨fb, foff + i, none⟩ = some (.int .i64 y) := by rw [hbel.cell (p := ⟨fb, foff + i, none⟩) hfs]; exact py
            clear c0 c1 c2 py
            have hown := hTw.onn
            have hbz : N + 1 ≤ (w5.alloc (Obj.cells #[.int .i64 y] 3)).heap.size := by have := hM.lt; simp; omega
            go_wp2_with (at_builtin; refine wpList_append_own_at _ rfl (.tmp 83) (.tmp 88) 28 rfl (N + 1) 3 i3 _ 1 8 Try.underlying28 hi3 hz3 hz4 hz5 rfl (by omega) _ _ _ rfl (hown.alloc _) ⟨w5.heap.size, 0, none⟩ 1 1 [.int .i64 y] rfl rfl (World.news_of_block (cs := #[.int .i64 y]) (t := 3) (fr := (0, 0)) (heap_alloc_new w5 _)) (one_int _ _) (by unfold maxLen; omega) (by omega) hbz ?_)
            intro v6 w6 hown1 hgrow1 _ hat1
            have hB1 := (Below.refl w5.heap.size w5).alloc (Nat.le_refl _) (Obj.cells #[.int .i64 y] 3)
            have hTw1 := (hTw.later hB1).numbered (x := y) (by first | exact hown1 | (rw [List.length_append]; exact hown1)) hgrow1 (hat1.imp id (fun e => by rw [e]; simp))
            have hM1 := (hM.later hB1).grown hgrow1 (fun e => by have := (hown.lt _ e).1; omega)
            have hbel1 := (hbel.alloc hbel.size (Obj.cells #[.int .i64 y] 3)).grown hgrow1 (by have := hbel.size; simp; omega) (fun k h => by have := (hown.lt k h).1; omega)
            replace hTw := hTw1
            replace hM := hM1
            replace hbel := hbel1
            clear hown hbz hown1 hgrow1 hat1 hB1
            clear hTw1 hM1 hbel1
            go_wp2_with fail
            go_roundw
            case rel =>
              obtain ⟨g1, g2, g3, g4, g5, g6⟩ := HT.out
              refine ⟨i + 1, done ++ [(p, some i)], by go_num, by omega, by rw [g2, ← g1]; simp, by simp; omega, ?_, hM, hbel⟩
              have e1 : ptsOf (done ++ [(p, some i)]) = O ++ [p] := by rw [g4]; simp [ptsOf]
              have e2 : numsOf fr (done ++ [(p, some i)]) = Z ++ [y] := by rw [g5, ← g3]; simp [numsOf, numOf]
              rw [e1, e2]; exact hTw
            case measure => simp only [intOf]; first | omega | (go_num; omega)
    | cons q k r =>
      obtain ⟨hk1, hk2, hk3⟩ := hgood
      obtain ⟨hlq, hilt, hdn⟩ := mem_at hdrop
      have hdec : decide (i < l.length) = true := decide_eq_true hilt
      have hdn2 : l.drop (i + 1) = k.flat ++ r.flat := hdn
      obtain ⟨B1, hB1⟩ : ∃ B1, B1 = upd q k (i + 1) 0 B := ⟨_, rfl⟩
      have hrun2 : run (k.app r) (i + 1) B1 = finF q0 k0 := by rw [hB1, ← run_step]; exact hrun
      have hbw : b < wr.heap.size := Nat.lt_of_lt_of_le hbs hbel.size
      have HK := Lib.hid (Kids_any b off cap l i q k r.flat wr hl hbw (fun j p hj => by rw [hbel.cell (p := ⟨b, off + j * 3 + 1, none⟩) hbs]; exact (HP.out j p hj).2.1) hdrop hk1 hk2)
      have H1 := Lib.hid (And.intro hk1 (And.intro hk2 (And.intro hk3 (And.intro hdn2 (And.intro hB1 (And.intro hrun2 hlq))))))
      clear hk1 hk2 hk3 hdn hdn2 hB1 hrun2 hlq hrun hdrop
      go_wp2_with fail
      refine HK.out.mono ?_
      rintro e w3 ⟨hb3, vk, rfl, hown⟩
      clear HK
      have hb0 := bthen hbel hb3
      have hM3 := hM.later hb3
      have hkN : N < wr.heap.size := hM.lt
      generalize wr.heap.size = kb at *
      obtain ⟨va, vcap, rfl⟩ := own_shape hown
      have hS2 : With2 w N l q k i r.flat B1 kb (.slice va (starts k (i + 1)).length vcap) w3 (.int .i64 0) :=
        ⟨k, i + 1, B, [], by simp, H1.out.2.1, by simp, H1.out.2.2.2.1, H1.out.2.2.2.2.1.symm, hM3, hown, hb0⟩
      have HS2 := Lib.hid hS2
      clear hS2 hb0 hM3 hown hM hbel hb3 hbw
      go_wp2_with fail
      go_loopw [10] (fun u10 w' => With2 w N l q k i r.flat B1 kb (.slice va (starts k (i + 1)).length vcap) w' u10) (fun u10 _ => ((starts k (i + 1)).length - intOf u10).toNat)
      case atStart => exact HS2.out
      case round =>
        clear HS2
        obtain ⟨g, s, B2, d, rfl, hgg, hst, hds, hup, hM, hown, hbel⟩ := hrel
        cases g with
        | nil =>
          have hdec2 : decide (d.length < (starts k (i + 1)).length) = false := decide_eq_false (by rw [hst]; simp [starts])
          have hBB : B2 = B1 := hup
          subst hBB
          clear hst hds hup hown hgg
          go_wp2_with fail
          go_roundw
          case rel =>
            obtain ⟨g1, g2, g3, g4, g5, g6, g7⟩ := H1.out
            exact ⟨k.app r, i + 1, _, by go_num, Fo.app_good _ _ g2 g3, by rw [g4, Fo.app_flat], g6, hM, hbel⟩
          case measure => simp only [intOf]; first | omega | (go_num; omega)
        | cons p kk gr =>
          obtain ⟨hp1, hp2, hp3⟩ := hgg
          have hds2 : l.drop s = p :: (kk.flat ++ (gr.flat ++ r.flat)) := by rw [hds]; simp [Fo.flat]
          obtain ⟨hls, hslt, hdns⟩ := mem_at hds2
          have hdec2 : decide (d.length < (starts k (i + 1)).length) = true := decide_eq_true (by rw [hst]; simp [starts])
          have hdlt : d.length < (starts k (i + 1)).length := of_decide_eq_true hdec2
          have hkl : (starts k (i + 1)).length ≤ 300 := by
            have h1 := congrArg List.length H1.out.2.2.2.1
            rw [starts_len]
            simp only [List.length_drop, List.length_append, Fo.flat_len] at h1
            have := Fo.count_le k
            omega
          obtain ⟨g2, cap2, hv2, _⟩ := hown.form (by omega)
          cases hv2
          have hkc : wr.cell? ⟨g2, d.length, none⟩ = some (.int .i64 (s : Int)) := by rw [World.ownsRow.cellAt hown d.length (by omega), hst]; simp [ivs, starts]
          have hg2 : g2 ≠ N := by have := (hown.lt g2 rfl).1; omega
          have hbN : b ≠ N := by omega
          obtain ⟨p0, p1, p2⟩ := HP.out i q H1.out.2.2.2.2.2.2
          obtain ⟨r0, r1, r2⟩ := HP.out s p hls
          rw [← hbel.cell (p := ⟨b, off + i * 3, none⟩) hbs] at p0
          rw [← hbel.cell (p := ⟨b, off + i * 3 + 1, none⟩) hbs] at p1
          rw [← hbel.cell (p := ⟨b, off + i * 3 + 2, none⟩) hbs] at p2
          rw [← hbel.cell (p := ⟨b, off + s * 3, none⟩) hbs] at r0
          rw [← hbel.cell (p := ⟨b, off + s * 3 + 1, none⟩) hbs] at r1
          rw [← hbel.cell (p := ⟨b, off + s * 3 + 2, none⟩) hbs] at r2
          have b0 : (0 : Int) ≤ (i : Int) := by omega
          have b1 : (i : Int) < (l.length : Int) := by omega
          have b2 : (0 : Int) ≤ (s : Int) := by omega
          have b3 : (s : Int) < (l.length : Int) := by omega
          have b4 : (0 : Int) ≤ (d.length : Int) := by omega
          have b5 : (d.length : Int) < ((starts k (i + 1)).length : Int) := by omega
          have hMd := hM.later ((Below.refl wr.heap.size wr).drew)
          have hod := ownsRow_below hown ((Below.refl wr.heap.size wr).drew)
          have hbd := hbel.drew
          have H2 := Lib.hid (And.intro hp1 (And.intro hp2 (And.intro hp3 (And.intro hds2 (And.intro hst hup)))))
          clear hp1 hp2 hp3 hds2 hst hup hls hdns hds hM hown hbel
          go_wp2_with fail
          go_region_held3 (fun w' => w'.cell? ⟨g2, d.length, none⟩ = some (.int .i64 (s : Int)) ∧ w'.cell? ⟨b, off + i * 3, none⟩ = some (.int .u8 (q.k.toNat : Int)) ∧ w'.cell? ⟨b, off + i * 3 + 1, none⟩ = some (.int .i64 q.n) ∧ w'.cell? ⟨b, off + i * 3 + 2, none⟩ = some (.string ⟨q.w.toArray⟩) ∧
              w'.cell? ⟨b, off + s * 3, none⟩ = some (.int .u8 (p.k.toNat : Int)) ∧ w'.cell? ⟨b, off + s * 3 + 1, none⟩ = some (.int .i64 p.n) ∧ w'.cell? ⟨b, off + s * 3 + 2, none⟩ = some (.string ⟨p.w.toArray⟩))
            (first
              | (refine ⟨?_, ?_, ?_, ?_, ?_, ?_, ?_⟩
                 all_goals assumption)
              | (go_split_ands
                 refine ⟨?_, ?_, ?_, ?_, ?_, ?_, ?_⟩
                 all_goals first | exact keepCell hn (by assumption) | exact setFar (by assumption) (by assumption)))
            (first
              | (go_at_call 22; refine (Loose_any q p _ _).mono ?_; rintro e w' ⟨rfl, hn⟩; have hM2 := hMd.later hn; have hs1 := hM2.cell s hslt; have hs2 := hM2.free s))
          rename_i hHeld
          clear hHeld
          have hok := ownsRow_below hod hn
          have hbk := bthen hbd hn
          have hM4 : Marks N l.length (fset B2 s (flg q p d.length)) (w'.setCell ⟨N, s, none⟩ (.bool (decide (levL p.k p.w < leastL q.k q.w d.length)))) := (hM2.set s (flg q p d.length)).1
          have hgr : w'.grownBy (w'.setCell ⟨N, s, none⟩ (.bool (decide (levL p.k p.w < leastL q.k q.w d.length)))) (some N) := (hM2.set s (flg q p d.length)).2
          have hok4 := World.ownsRow.kept hok hgr (by right; simp [Value.ownBlock]; exact hg2)
          have hbk4 := hbk.grown hgr (by have := hbk.size; omega) (fun k h => by cases h; exact hN)
          clear hn hs1 hs2 hgr hok hbk hM2 hMd hod hbd hkc p0 p1 p2 r0 r1 r2
          generalize w'.setCell ⟨N, s, none⟩ (.bool (decide (levL p.k p.w < leastL q.k q.w d.length))) = w9 at *
          go_wp2_with fail
          go_roundw
          case rel =>
            obtain ⟨g1, g2, g3, g4, g5, g6⟩ := H2.out
            refine ⟨gr, s + 1 + kk.size, _, d ++ [s], by simp, g3, by rw [g5]; simp [starts], ?_, ?_, hM4, hok4, hbk4⟩
            · have : l.drop (s + 1 + kk.size) = (l.drop s).drop (1 + kk.size) := by rw [List.drop_drop]; congr 1; omega
              rw [this, g4, Nat.add_comm 1, List.drop_succ_cons, ← Fo.flat_len, List.drop_left]
            · rw [← g6, upd]; simp
          case measure => simp only [intOf]; first | omega | (go_num; omega) | go_num
end Go.Proofs.Ytgmkokophcmbnaa
