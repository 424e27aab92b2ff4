import Derived.Test.YtegbdigfbklkaaaGreatDoorQBW
namespace Go.Proofs.YtegbdigfbklkaaaGreatDoor
set_option linter.all false
set_option maxHeartbeats 40000000
set_option maxRecDepth 100000
section
open Go.RowKit
variable {w : World}
def Has (w : World) (g m : Nat) : Prop := ∃ cs T, w.heap[g]? = some (.cells cs T (0, 0)) ∧ m ≤ cs.size
theorem Has.at {g m k : Nat} (h : Has w g m) (hk : k < m) : (∃ v, w.cell? ⟨g, k, none⟩ = some v) ∧ w.frozen? ⟨g, k, none⟩ = false := by
 obtain ⟨cs, T, h1, h2⟩ := h
 refine ⟨⟨cs[k]'(by omega), ?_⟩, ?_⟩
 ·unfold World.cell?; rw [h1]; simp
 ·unfold World.frozen?; rw [h1]; simp
theorem Has.set {g m k : Nat} {v : Value} (h : Has w g m) : Has (w.setCell ⟨g, k, none⟩ v) g m := by
 obtain ⟨cs, T, h1, h2⟩ := h
 exact ⟨_, T, heap_setCell_same w g k _ _ v h1, by simpa using h2⟩
theorem Has.fr {g m : Nat} {X : List Nat} {w' : World} (h : Has w g m) (hf : Fr X w w') (hX : g ∉ X) : Has w' g m := by
 obtain ⟨cs, T, h1, h2⟩ := h
 exact ⟨cs, T, hf.at_ hX h1, h2⟩
theorem has_of {lo sz n : Nat} {T : TypeId} {v : Value} {xs : List Value} (h : w.ownsRow lo T sz v n xs) : ∀ g, v.ownBlock = some g → Has w g (n * sz) := by
 intro g hg
 rcases h.2 with ⟨h1, _⟩ | ⟨g', cap, cur, h1, _, h3, h4, _, h6, _⟩
 ·rw [h1] at hg; cases hg
 ·rw [h1] at hg; cases hg
  exact ⟨cur, T, h3, by rw [h6]; exact Nat.mul_le_mul_right _ h4⟩
theorem slice_at {lo sz n m cap : Nat} {T : TypeId} {a : Option Addr} {xs : List Value} (h : w.ownsRow lo T sz (.slice a m cap) n xs) (hn : 0 < n) : ∃ g, a = some ⟨g, 0, none⟩ := by
 rcases h.2 with ⟨_, h1⟩ | ⟨g', cap, cur, h1, _⟩
 ·omega
 ·cases h1; exact ⟨g', rfl⟩
theorem Has.put3 {g m k : Nat} (h : Has w g m) (hk : k + 2 < m) (x0 x1 x2 : Value) :
  (∃ v, w.cell? ⟨g, k, none⟩ = some v) ∧ (∃ v, w.cell? ⟨g, k + 1, none⟩ = some v) ∧ (∃ v, w.cell? ⟨g, k + 2, none⟩ = some v) ∧ w.frozen? ⟨g, k, none⟩ = false ∧ w.frozen? ⟨g, k + 1, none⟩ = false ∧ w.frozen? ⟨g, k + 2, none⟩ = false ∧
  Has (((w.setCell ⟨g, k, none⟩ x0).setCell ⟨g, k + 1, none⟩ x1).setCell ⟨g, k + 2, none⟩ x2) g m ∧ Fr [g] w (((w.setCell ⟨g, k, none⟩ x0).setCell ⟨g, k + 1, none⟩ x1).setCell ⟨g, k + 2, none⟩ x2) := by
 refine ⟨(h.at (by omega)).1, (h.at (by omega)).1, (h.at (by omega)).1, (h.at (by omega)).2, (h.at (by omega)).2, (h.at (by omega)).2, h.set.set.set, ?_⟩
 exact (Fr.set (a := ⟨g, k, none⟩)).trans ((Fr.set (a := ⟨g, k + 1, none⟩)).trans (Fr.set (a := ⟨g, k + 2, none⟩)))
theorem Has.put5 {g m k : Nat} (h : Has w g m) (hk : k + 4 < m) (x0 x1 x2 x3 x4 : Value) :
  (∃ v, w.cell? ⟨g, k, none⟩ = some v) ∧ (∃ v, w.cell? ⟨g, k + 1, none⟩ = some v) ∧ (∃ v, w.cell? ⟨g, k + 2, none⟩ = some v) ∧ (∃ v, w.cell? ⟨g, k + 3, none⟩ = some v) ∧ (∃ v, w.cell? ⟨g, k + 4, none⟩ = some v) ∧ w.frozen? ⟨g, k, none⟩ = false ∧ w.frozen? ⟨g, k + 1, none⟩ = false ∧ w.frozen? ⟨g, k + 2, none⟩ = false ∧ w.frozen? ⟨g, k + 3, none⟩ = false ∧ w.frozen? ⟨g, k + 4, none⟩ = false ∧
  Has (((((w.setCell ⟨g, k, none⟩ x0).setCell ⟨g, k + 1, none⟩ x1).setCell ⟨g, k + 2, none⟩ x2).setCell ⟨g, k + 3, none⟩ x3).setCell ⟨g, k + 4, none⟩ x4) g m ∧ Fr [g] w (((((w.setCell ⟨g, k, none⟩ x0).setCell ⟨g, k + 1, none⟩ x1).setCell ⟨g, k + 2, none⟩ x2).setCell ⟨g, k + 3, none⟩ x3).setCell ⟨g, k + 4, none⟩ x4) := by
 refine ⟨(h.at (by omega)).1, (h.at (by omega)).1, (h.at (by omega)).1, (h.at (by omega)).1, (h.at (by omega)).1, (h.at (by omega)).2, (h.at (by omega)).2, (h.at (by omega)).2, (h.at (by omega)).2, (h.at (by omega)).2, h.set.set.set.set.set, ?_⟩
 exact (Fr.set (a := ⟨g, k, none⟩)).trans ((Fr.set (a := ⟨g, k + 1, none⟩)).trans ((Fr.set (a := ⟨g, k + 2, none⟩)).trans ((Fr.set (a := ⟨g, k + 3, none⟩)).trans (Fr.set (a := ⟨g, k + 4, none⟩)))))
theorem own_ne {lo lo' sz sz' n n' : Nat} {T T' : TypeId} {v v' : Value} {xs xs' : List Value} (h : w.ownsRow lo T sz v n xs) (h' : w.ownsRow lo' T' sz' v' n' xs') (hT : T ≠ T') : ∀ g, v.ownBlock = some g → v'.ownBlock ≠ some g := by
 intro g hg hg'
 rcases h.2 with ⟨h1, _⟩ | ⟨g1, cap, cur, h1, _, h3, _⟩
 ·rw [h1] at hg; cases hg
 rcases h'.2 with ⟨k1, _⟩ | ⟨g2, cap2, cur2, k1, _, k3, _⟩
 ·rw [k1] at hg'; cases hg'
 rw [h1] at hg; cases hg
 rw [k1] at hg'; cases hg'
 rw [h3] at k3
 cases k3
 exact hT rfl
def blk (v : Value) : List Nat := match v.ownBlock with | some b => [b] | none => []
theorem blk_mem {v : Value} {b : Nat} (h : b ∈ blk v) : v.ownBlock = some b := by
 unfold blk at h
 split at h
 ·rename_i e; simp at h; rw [h]; exact e
 ·cases h
theorem fr_up {X Y : List Nat} {a b : World} (h : Fr X a b) (hs : ∀ x ∈ X, x ∈ Y) : Fr Y a b := h.weaken (fun k _ hk => hs k hk)
theorem fresh_law (n : UInt8) (s : List UInt8) (hT : Tabs w) : Calls Tryz.prog 5 #[.int .u8 (n.toNat : Int), .string ⟨s.toArray⟩] w (fun e w' => e = .returned (.bool true) ∧ Below w.heap.size w w') := by
 have HG := fun w => goal_walk (w := w) n
 obtain ⟨gl, hgl⟩ : ∃ gl, gl = goalB n := ⟨_, rfl⟩
 rw [← hgl] at HG
 have HP0 := fun w h => parse_any gl s w h
 have HM0 := fun w h => term_any gl s w h
 obtain ⟨r, hr⟩ : ∃ r, r = readT nestN gl s := ⟨_, rfl⟩
 rw [← hr] at HP0 HM0
 have HR := Lib.hid hr
 obtain ⟨er, her⟩ : ∃ er, er = (errR r).1 := ⟨_, rfl⟩
 obtain ⟨ea, hea⟩ : ∃ ea, ea = (errR r).2 := ⟨_, rfl⟩
 rw [← her, ← hea] at HP0 HM0
 have HE := Lib.hid (And.intro her hea)
 have HP := Lib.hid HP0
 have HM := Lib.hid HM0
 have HX := Lib.hid (fun w h => fixed_walk (w := w) h)
 have HT := Lib.hid hT
 clear hgl hT hr her hea HP0 HM0
 go_enter Tryz.func5, Tryz.ntmps5
 go_upto_region 2 with (first | (go_at_call 12; refine (HG _).mono ?_; rintro e w1 ⟨rfl, hw1⟩; replace hw1 := hw1.symm; subst hw1) | (go_at_call 11; refine (HP.out _ HT.out).mono ?_; rintro e w2 ⟨ta1, na1, tn1, tc1, nn1, nc1, rfl, hq1, hb1⟩))
 obtain ⟨OP1, hOP1⟩ : ∃ O, O = Obj.cells #[.slice ta1 tn1 tc1, .slice na1 nn1 nc1] 41 (0, 0) := ⟨_, rfl⟩
 obtain ⟨OF, hOF⟩ : ∃ O, O = Obj.cells #[.int .i64 (er : Int), .int .i64 (ea : Int)] 27 (0, 0) := ⟨_, rfl⟩
 rw [← hOP1, ← hOF]
 obtain ⟨bA, A1, A2, sA⟩ := two_alloc w2 OP1 OF
 have BA := hb1.trans (bA.mono hb1.size)
 have hs1 := hb1.size
 have HQ1 := Lib.hid hq1
 clear hq1 hb1
 generalize (w2.alloc OP1).alloc OF = wA at *
 have HTA := Lib.hid (HT.out.below BA)
 go_upto_region 3 with (first | (go_at_call 12; refine (HG _).mono ?_; rintro e w3 ⟨rfl, hw3⟩; replace hw3 := hw3.symm; subst hw3) | (go_at_call 11; refine (HP.out _ HTA.out).mono ?_; rintro e w4 ⟨ta2, na2, tn2, tc2, nn2, nc2, rfl, hq2, hb2⟩))
 obtain ⟨OP2, hOP2⟩ : ∃ O, O = Obj.cells #[.slice ta2 tn2 tc2, .slice na2 nn2 nc2] 41 (0, 0) := ⟨_, rfl⟩
 rw [← hOP2, ← hOF]
 obtain ⟨bB, B1, B2, sB⟩ := two_alloc w4 OP2 OF
 have bAB := hb2.trans (bB.mono hb2.size)
 have BB := bthen BA bAB
 have A1 := (bAB.block _ (by omega)).trans A1
 have A2 := (bAB.block _ (by omega)).trans A2
 have hs2 := hb2.size
 have HQ2 := Lib.hid (And.intro hq2 (And.intro bA (And.intro bAB (And.intro bB hb2))))
 clear hq2 hb2 bA bB bAB
 generalize (w4.alloc OP2).alloc OF = wB at *
 have HTB := Lib.hid (HT.out.below BB)
 go_upto_region 4 with (first | (go_at_call 12; refine (HG _).mono ?_; rintro e w5 ⟨rfl, hw5⟩; replace hw5 := hw5.symm; subst hw5) | (go_at_call 6; refine (HM.out _ HTB.out).mono ?_; rintro e w6 ⟨pa3, pn3, pc3, rfl, hq3, hb3⟩))
 rw [← hOF]
 have C1 := heap_alloc_new w6 OF
 have bC := (Below.refl w6.heap.size w6).alloc (Nat.le_refl _) OF
 have sC : (w6.alloc OF).heap.size = w6.heap.size + 1 := by simp
 have bBC := hb3.trans (bC.mono hb3.size)
 have BC := bthen BB bBC
 have A1 := (bBC.block _ (by omega)).trans A1
 have A2 := (bBC.block _ (by omega)).trans A2
 have B1 := (bBC.block _ (by omega)).trans B1
 have hs3 := hb3.size
 have HQ3 := Lib.hid (And.intro hq3 (And.intro bBC (And.intro bC hb3)))
 clear hq3 hb3 bC bBC C1 B2
 generalize w6.alloc OF = wC at *
 have HTC := Lib.hid (HT.out.below BC)
 go_upto_region 5 with (first | (go_at_call 12; refine (HG _).mono ?_; rintro e w7 ⟨rfl, hw7⟩; replace hw7 := hw7.symm; subst hw7) | (go_at_call 6; refine (HM.out _ HTC.out).mono ?_; rintro e w8 ⟨pa4, pn4, pc4, rfl, hq4, hb4⟩))
 rw [← hOF]
 have bD := (Below.refl w8.heap.size w8).alloc (Nat.le_refl _) OF
 have sD : (w8.alloc OF).heap.size = w8.heap.size + 1 := by simp
 have bCD := hb4.trans (bD.mono hb4.size)
 have BD := bthen BC bCD
 have A1 := (bCD.block _ (by omega)).trans A1
 have A2 := (bCD.block _ (by omega)).trans A2
 have B1 := (bCD.block _ (by omega)).trans B1
 have hs4 := hb4.size
 have HQ4 := Lib.hid (And.intro hq4 (And.intro bCD (And.intro bD hb4)))
 clear hq4 hb4 bD bCD
 generalize w8.alloc OF = wD at *
 have HTD := Lib.hid (HT.out.below BD)
 rw [hOF] at A2
 obtain ⟨f1, f2, _, _⟩ := two_cells A2
 clear A2 hOF BA BB BC
 cases r with
 | bad e0 a0 =>
  obtain ⟨h1, h2⟩ := HE.out
  have hne : e0 ≠ 0 := readT_ne nest_law HR.out.symm
  have h3 : er = e0 := h1
  subst h3
  have k1 : (er == 0) = false := by simpa using hne
  have k2 : ((er : Int) == 0) = false := by simp; omega
  have HBD := Lib.hid BD
  clear h1 h2 hne BD A1 B1
  go_wp2_with (go_at_call 7; first | (refine (HX.out wD HTD.out).mono ?_; rintro e w9 ⟨rfl, hb9⟩; have f1 := keepCell hb9 f1; have f2 := keepCell hb9 f2; have HB9 := Lib.hid (bthen HBD.out hb9); clear hb9) | (refine (HX.out _ (HT.out.below HB9.out)).mono ?_; rintro e w10 ⟨rfl, hb10⟩))
  go_ret
  exact ⟨rfl, bthen HB9.out hb10⟩
 | ok l t =>
  obtain ⟨h1, h2⟩ := HE.out
  have h3 : er = 0 := h1
  have h4 : ea = 0 := h2
  subst h3; subst h4
  have HBD := Lib.hid BD
  clear h1 h2 BD
  go_upto_region 7 with (go_at_call 7; refine (HX.out wD HTD.out).mono ?_; rintro e w9 ⟨rfl, hb9⟩; have f1 := keepCell hb9 f1; have f2 := keepCell hb9 f2)
  clear f1 f2
  have BD := bthen HBD.out hb9
  have A1 := (hb9.block _ (by omega)).trans A1
  have B1 := (hb9.block _ (by omega)).trans B1
  obtain ⟨q1t, q1n⟩ := HQ1.out
  obtain ⟨⟨q2t, q2n⟩, bA, bAB, bB, _⟩ := HQ2.out
  obtain ⟨q3, bBC, bC, _⟩ := HQ3.out
  obtain ⟨q4, bCD, bD, _⟩ := HQ4.out
  replace q3 : w6.ownsRow wB.heap.size 34 3 (.slice pa3 pn3 pc3) _ (pt3sV (parts ⟨s, l, []⟩ t)) := q3
  replace q4 : w8.ownsRow wC.heap.size 34 3 (.slice pa4 pn4 pc4) _ (pt3sV (parts ⟨s, l, []⟩ t)) := q4
  obtain rfl : tn1 = l.length := by obtain ⟨_, _, e⟩ := Grd.own_shape q1t; cases e; rfl
  obtain rfl : tn2 = l.length := by obtain ⟨_, _, e⟩ := Grd.own_shape q2t; cases e; rfl
  obtain rfl : nn1 = (nodes t).length := by obtain ⟨_, _, e⟩ := Grd.own_shape q1n; cases e; rfl
  obtain rfl : nn2 = (nodes t).length := by obtain ⟨_, _, e⟩ := Grd.own_shape q2n; cases e; rfl
  obtain rfl : pn3 = (parts ⟨s, l, []⟩ t).length := by obtain ⟨_, _, e⟩ := Grd.own_shape q3; cases e; rfl
  obtain rfl : pn4 = (parts ⟨s, l, []⟩ t).length := by obtain ⟨_, _, e⟩ := Grd.own_shape q4; cases e; rfl
  have HD1 := own_ne q1n q1t (by decide)
  have l1n := q1n.lt
  have l1t := q1t.lt
  have l2n := q2n.lt
  have l3 := q3.lt
  have l4 := q4.lt
  have X2 : Fr [] w2 w9 := (Fr.below bA).trans ((Fr.below bAB).trans ((Fr.below bBC).trans ((Fr.below bCD).trans (Fr.below hb9))))
  have X4 : Fr [] w4 w9 := (Fr.below bB).trans ((Fr.below bBC).trans ((Fr.below bCD).trans (Fr.below hb9)))
  have X6 : Fr [] w6 w9 := (Fr.below bC).trans ((Fr.below bCD).trans (Fr.below hb9))
  have X8 : Fr [] w8 w9 := (Fr.below bD).trans (Fr.below hb9)
  have H1n := has_of (own_fr q1n X2 (by simp))
  have H1t := has_of (own_fr q1t X2 (by simp))
  have H3 := has_of (own_fr q3 X6 (by simp))
  have S1n := fun (h : 0 < (nodes t).length) => slice_at q1n h
  have S1t := fun (h : 0 < l.length) => slice_at q1t h
  have S3 := fun (h : 0 < (parts ⟨s, l, []⟩ t).length) => slice_at q3 h
  have L2 := own_fr q2n X4 (by simp)
  have L4 := own_fr q4 X8 (by simp)
  have s9 := hb9.size
  have hcn : (nodes t).length ≤ 100000000 := by have := (read_ok HR.out.symm).cnt; rw [nodes_len]; omega
  have hcl : l.length ≤ 100000000 := by have := (read_ok HR.out.symm).few; omega
  have hcp : (parts ⟨s, l, []⟩ t).length ≤ 100000000 := by have := (read_ok HR.out.symm).cnt; rw [parts_len]; omega
  have HL := Lib.hid (And.intro L2 (And.intro L4 (And.intro l2n (And.intro l4 BD))))
  clear q1t q1n q2t q2n q3 q4 bA bAB bB bBC bC bCD bD X2 X4 X6 X8 L2 L4 l2n l4 BD hb9 HQ1 HQ2 HQ3 HQ4 HBD
  generalize hN : (nodes t).length = N at *
  generalize hM : l.length = M at *
  generalize hK : (parts ⟨s, l, []⟩ t).length = K at *
  have HNMK := Lib.hid (And.intro hN (And.intro hM hK))
  have HS := Lib.hid (And.intro S1n (And.intro S1t S3))
  have HN1 := Lib.hid (And.intro l1n (And.intro l1t l3))
  have HDD := Lib.hid HD1
  have HH := Lib.hid (And.intro H1n (And.intro H1t H3))
  have HAB := Lib.hid (And.intro A1 B1)
  have HZ := Lib.hid (And.intro sA (And.intro sB (And.intro sC (And.intro sD (And.intro hs1 (And.intro hs2 (And.intro hs3 (And.intro hs4 s9))))))))
  clear HD1 S1n S1t S3 l1n l1t l3 H1n H1t H3 A1 B1 hN hM hK sA sB sC sD hs1 hs2 hs3 hs4 s9
  go_wp2_with fail
  go_loopg [13] N (fun j v13 wr => ∃ i : Nat, v13 = .int .i64 (i : Int) ∧ i + j = N ∧ Fr (blk (.slice na1 N nc1)) w9 wr ∧ ∀ g, (Value.slice na1 N nc1).ownBlock = some g → Has wr g (N * 5))
  case atStart => exact ⟨0, rfl, by omega, Fr.refl _ _, HH.out.1⟩
  case round =>
   obtain ⟨i, rfl, hj, hF, hH⟩ := hrel
   have p1 : wr.heap[w2.heap.size]? = some OP1 := hF.at_ (fun m => by have := (HN1.out.1 _ (blk_mem m)).2; omega) HAB.out.1
   rw [hOP1] at p1
   obtain ⟨c0, c1, _, _⟩ := two_cells p1
   by_cases hi : i < N
   ·obtain ⟨g, rfl⟩ := HS.out.1 (by omega)
    have hg := hH g rfl
    obtain ⟨⟨y0, z0⟩, ⟨y1, z1⟩, ⟨y2, z2⟩, ⟨y3, z3⟩, ⟨y4, z4⟩, u0, u1, u2, u3, u4, hg2, hf2⟩ := hg.put5 (k := i * 5) (by omega) (.int .u8 0) (.int .i64 0) (.int .i64 0) (.int .i64 0) (.int .i64 0)
    have HK2 := Lib.hid (And.intro hg2 (And.intro hf2 hF))
    clear hg hg2 hf2 hF hH p1
    go_wp2_with fail
    go_roundg (gk - 1)
    case measure => omega
    case rel => exact ⟨i + 1, by simp, by omega, HK2.out.2.2.trans HK2.out.2.1, fun g' hg' => by cases hg'; exact HK2.out.1⟩
   ·obtain ⟨wr1, hwr1⟩ : ∃ x, x = wr := ⟨_, rfl⟩
    subst hwr1
    have HF := Lib.hid hF
    clear hF hH p1
    go_wp2_with fail
    clear c0 c1
    go_loopg [14] M (fun j v14 wr2 => ∃ i2 : Nat, v14 = .int .i64 (i2 : Int) ∧ i2 + j = M ∧ Fr (blk (.slice ta1 M tc1)) wr1 wr2 ∧ ∀ g, (Value.slice ta1 M tc1).ownBlock = some g → Has wr2 g (M * 3))
    case atStart => exact ⟨0, rfl, by omega, Fr.refl _ _, fun g hg => (HH.out.2.1 g hg).fr HF.out (fun m => HDD.out g (blk_mem m) hg)⟩
    case round =>
     obtain ⟨i2, rfl, hj2, hF2, hH2⟩ := hrel
     obtain ⟨wr2, hwr2⟩ : ∃ x, x = wr := ⟨_, rfl⟩
     subst hwr2
     have p2 : wr2.heap[w2.heap.size]? = some OP1 := hF2.at_ (fun m => by have := (HN1.out.2.1 _ (blk_mem m)).2; omega) (HF.out.at_ (fun m => by have := (HN1.out.1 _ (blk_mem m)).2; omega) HAB.out.1)
     rw [hOP1] at p2
     obtain ⟨d0, d1, _, _⟩ := two_cells p2
     by_cases hi2 : i2 < M
     ·obtain ⟨g, rfl⟩ := HS.out.2.1 (by omega)
      have hg := hH2 g rfl
      obtain ⟨⟨y0, z0⟩, ⟨y1, z1⟩, ⟨y2, z2⟩, u0, u1, u2, hg2, hf2⟩ := hg.put3 (k := i2 * 3) (by omega) (.int .u8 0) (.int .i64 0) (.int .i64 0)
      have HK2 := Lib.hid (And.intro hg2 (And.intro hf2 hF2))
      clear hg hg2 hf2 hF2 hH2 p2
      go_wp2_with fail
      go_roundg (gk - 1)
      case measure => omega
      case rel => exact ⟨i2 + 1, by simp, by omega, HK2.out.2.2.trans HK2.out.2.1, fun g' hg' => by cases hg'; exact HK2.out.1⟩
     ·have HF2 := Lib.hid hF2
      clear hF2 hH2 p2
      go_wp2_with fail
      clear d0 d1
      go_loopg [15] K (fun j v15 wr3 => ∃ i3 : Nat, v15 = .int .i64 (i3 : Int) ∧ i3 + j = K ∧ Fr (blk (.slice pa3 K pc3)) wr2 wr3 ∧ ∀ g, (Value.slice pa3 K pc3).ownBlock = some g → Has wr3 g (K * 3))
      case atStart =>
       refine ⟨0, rfl, by omega, Fr.refl _ _, fun g hg => ((HH.out.2.2 g hg).fr HF.out (fun m => ?_)).fr HF2.out (fun m => ?_)⟩
       ·have := (HN1.out.1 _ (blk_mem m)).2; have := (HN1.out.2.2 _ hg).1; have := HZ.out; omega
       ·have := (HN1.out.2.1 _ (blk_mem m)).2; have := (HN1.out.2.2 _ hg).1; have := HZ.out; omega
      case round =>
       obtain ⟨i3, rfl, hj3, hF3, hH3⟩ := hrel
       obtain ⟨wr3, hwr3⟩ : ∃ x, x = wr := ⟨_, rfl⟩
       subst hwr3
       by_cases hi3 : i3 < K
       ·obtain ⟨g, rfl⟩ := HS.out.2.2 (by omega)
        have hg := hH3 g rfl
        obtain ⟨⟨y0, z0⟩, ⟨y1, z1⟩, ⟨y2, z2⟩, u0, u1, u2, hg2, hf2⟩ := hg.put3 (k := i3 * 3) (by omega) (.int .u8 0) (.int .i64 0) (.string ⟨#[]⟩)
        have HK2 := Lib.hid (And.intro hg2 (And.intro hf2 hF3))
        clear hg hg2 hf2 hF3 hH3
        go_wp2_with fail
        go_roundg (gk - 1)
        case measure => omega
        case rel => exact ⟨i3 + 1, by simp, by omega, HK2.out.2.2.trans HK2.out.2.1, fun g' hg' => by cases hg'; exact HK2.out.1⟩
       ·obtain ⟨hN, hM, hK⟩ := HNMK.out
        obtain ⟨L2, L4, l2n, l4, BD⟩ := HL.out
        obtain ⟨z1, z2, z3, z4, z5, z6, z7, z8, z9⟩ := HZ.out
        have b1 : ∀ b, b ∈ blk (.slice na1 N nc1) → w.heap.size ≤ b ∧ b < w2.heap.size := fun b m => HN1.out.1 b (blk_mem m)
        have b2 : ∀ b, b ∈ blk (.slice ta1 M tc1) → w.heap.size ≤ b ∧ b < w2.heap.size := fun b m => HN1.out.2.1 b (blk_mem m)
        have b3 : ∀ b, b ∈ blk (.slice pa3 K pc3) → wB.heap.size ≤ b ∧ b < w6.heap.size := fun b m => HN1.out.2.2 b (blk_mem m)
        have p4 : wr3.heap[w4.heap.size]? = some OP2 := hF3.at_ (fun m => by have := b3 _ m; omega) (HF2.out.at_ (fun m => by have := b2 _ m; omega) (HF.out.at_ (fun m => by have := b1 _ m; omega) HAB.out.2))
        rw [hOP2] at p4
        obtain ⟨d0, d1, _, _⟩ := two_cells p4
        have R2 := own_fr (own_fr (own_fr L2 HF.out (fun b m e => by have := b1 _ m; have := (l2n b e).1; omega)) HF2.out (fun b m e => by have := b2 _ m; have := (l2n b e).1; omega)) hF3 (fun b m e => by have := b3 _ m; have := (l2n b e).2; omega)
        have R4 := own_fr (own_fr (own_fr L4 HF.out (fun b m e => by have := b1 _ m; have := (l4 b e).1; omega)) HF2.out (fun b m e => by have := b2 _ m; have := (l4 b e).1; omega)) hF3 (fun b m e => by have := b3 _ m; have := (l4 b e).1; omega)
        have BE := below_fr hF3 (below_fr HF2.out (below_fr HF.out BD (fun b m => (b1 _ m).1)) (fun b m => (b2 _ m).1)) (fun b m => by have := b3 _ m; omega)
        have HTE := Lib.hid (HT.out.below BE)
        have R2' : wr3.ownsRow wA.heap.size 47 5 (.slice na2 (nodes t).length nc2) (nodes t).length (nd5sV (nodes t)) := by rw [hN]; exact R2
        have HC1 := rtree_good HR.out.symm R2'
        rw [hN, hM] at HC1
        have R4' : wr3.ownsRow wC.heap.size 34 3 (.slice pa4 (parts ⟨s, l, []⟩ t).length pc4) (parts ⟨s, l, []⟩ t).length (pt3sV (parts ⟨s, l, []⟩ t)) := by rw [hK]; exact R4
        have HR4 := Lib.hid R4'
        have HC1 := Lib.hid HC1
        have HBE := Lib.hid BE
        clear L2 L4 l2n l4 BD z1 z2 z3 z4 z5 z6 z7 z8 z9 b1 b2 b3 p4 R2 R4 R2' R4' BE hF3 hH3
        clear HNMK
        go_wp2_with (first | (go_at_call 13; refine HC1.out.mono ?_; rintro e w10 ⟨rfl, hb10⟩; have HB10 := Lib.hid hb10; clear hb10) | (go_at_call 8; have HC2 := rterm_good HR.out.symm (HTE.out.below HB10.out) (own_fr HR4.out (Fr.below (X := []) HB10.out) (by simp)); rw [hK] at HC2; refine HC2.mono ?_; rintro e w11 ⟨rfl, hb11⟩; have HB11 := Lib.hid (bthen HB10.out hb11); clear hb11 HC2))
        go_ret
        exact ⟨rfl, bthen HBE.out HB11.out⟩
end
end Go.Proofs.YtegbdigfbklkaaaGreatDoor
