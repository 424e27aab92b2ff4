import Derived.Test.YtgmkokophcmbnaaW5
namespace Go.Proofs.Ytgmkokophcmbnaa
open Go.RowKit

/-- what put and each answer -/
def CopPost (c : Nat) (LV FV vo vn : Value) (w : World) (at2 : Int) (outs2 : List Pt) (nums2 : List Int) (e : Ending) (w' : World) : Prop :=
  ∃ vo' vn', e = .returned (.tuple #[]) ∧ Cop c LV FV vo' vn' at2 outs2 nums2 w' ∧ Trans c vo vn w vo' vn' w'
theorem Trans.keep {c : Nat} {vo vn vo' vn' : Value} {w w' : World} (hT : Trans c vo vn w vo' vn' w')
    {q : Nat} (hq : q < w.heap.size) (h1 : q ≠ c) (h2 : vo.ownBlock ≠ some q) (h3 : vn.ownBlock ≠ some q) (i : Nat) : w'.cell? ⟨q, i, none⟩ = w.cell? ⟨q, i, none⟩ :=
  cell_of_block (hT.block q hq h1 h2 h3)

set_option maxHeartbeats 2000000 in
set_option maxRecDepth 100000 in
theorem put_gen (c b off lcap fb foff fcap : Nat) (m : Int) (l : List Pt) (fr : List Int) (vo vn : Value) (at' : Nat) (outs outs2 : List Pt) (nums nums2 : List Int) (at2 : Int) (p : Pt) (x : Int) (w : World)
    (hl : l.length ≤ 1099511627776) (ho : outs.length ≤ 2199023255552) (hno : nums.length ≤ 2199023255552) (hat : at' < l.length) (hp : l[at']? = some p) (hx : fr[at']? = some x)
    (hC : Cop c (.slice (some ⟨b, off, none⟩) l.length lcap) (.slice (some ⟨fb, foff, none⟩) l.length fcap) vo vn (at' : Int) outs nums w)
    (hL : Lay c b off fb foff m l fr w)
    (hE : ∀ (vo1 vn1 : Value) (w1 : World), Cop c (.slice (some ⟨b, off, none⟩) l.length lcap) (.slice (some ⟨fb, foff, none⟩) l.length fcap) vo1 vn1 ((at' : Int) + 1) (outs ++ [p]) (nums ++ [x]) w1 → Lay c b off fb foff m l fr w1 →
      Calls Try.prog 25 #[.pointer (some ⟨c, 0, none⟩), .agg #[.int .u8 (p.k.toNat : Int), .int .i64 p.n, .string ⟨p.w.toArray⟩], .func (.func 19) #[.pointer (some ⟨c, 0, none⟩)] #[]] w1 (CopPost c (.slice (some ⟨b, off, none⟩) l.length lcap) (.slice (some ⟨fb, foff, none⟩) l.length fcap) vo1 vn1 w1 at2 outs2 nums2)) :
    Calls Try.prog 19 #[.pointer (some ⟨c, 0, none⟩)] w (CopPost c (.slice (some ⟨b, off, none⟩) l.length lcap) (.slice (some ⟨fb, foff, none⟩) l.length fcap) vo vn w at2 outs2 nums2) := by
  obtain ⟨c0, c1, c2, c3, c4, hc⟩ := hC.cell
  obtain ⟨p0, p1, p2⟩ := hL.parts at' p hp
  have b0 : (0 : Int) ≤ (at' : Int) := by omega
  have b1 : (at' : Int) < (l.length : Int) := by omega
  obtain ⟨i0, hi0, hz0, hz1, hz2⟩ := info_parts Try.info23
  obtain ⟨i3, hi3, hz3, hz4, hz5⟩ := info_parts Try.info3
  go_enter Try.func19, Try.ntmps19
  go_wp2_with fail
  go_region_held3 (fun w' => w'.cell? ⟨c, 0, none⟩ = some (.slice (some ⟨b, off, none⟩) l.length lcap) ∧ w'.cell? ⟨c, 4, none⟩ = some (.int .i64 at') ∧
      w'.cell? ⟨b, off + at' * 3, none⟩ = some (.int .u8 (p.k.toNat : Int)) ∧ w'.cell? ⟨b, off + at' * 3 + 1, none⟩ = some (.int .i64 p.n) ∧ w'.cell? ⟨b, off + at' * 3 + 2, none⟩ = some (.string ⟨p.w.toArray⟩))
    (go_keep)
    (first | fail)
  go_wp2_with fail
  have hB1 : Below w.heap.size w ((w.alloc (Obj.cells #[.int .u8 p.k.toNat, .int .i64 p.n, .string ⟨p.w.toArray⟩] 23)).drew) := ((Below.refl _ _).alloc (Nat.le_refl _) _).drew
  have hC1 := hC.later hB1
  have hbx : ((w.alloc (Obj.cells #[.int .u8 p.k.toNat, .int .i64 p.n, .string ⟨p.w.toArray⟩] 23)).drew).heap[w.heap.size]? = some (.cells #[.int .u8 p.k.toNat, .int .i64 p.n, .string ⟨p.w.toArray⟩] 23 (0, 0)) := heap_alloc_new w _
  have hT1 : Trans c vo vn w vo vn ((w.alloc (Obj.cells #[.int .u8 p.k.toNat, .int .i64 p.n, .string ⟨p.w.toArray⟩] 23)).drew) := .below hB1
  have hL1 := hL.trans hC hT1
  have hqo : vo.ownBlock ≠ some w.heap.size := fun e => by have := (hC.own.lt _ e).2; omega
  have hqn : vn.ownBlock ≠ some w.heap.size := fun e => by have := (hC.onn.lt _ e).2; omega
  generalize ((w.alloc (Obj.cells #[.int .u8 p.k.toNat, .int .i64 p.n, .string ⟨p.w.toArray⟩] 23)).drew) = w1 at *
  clear c0 c1 c2 c3 c4 p0 p1 p2 hB1
  obtain ⟨c0, c1, c2, c3, c4, hc1⟩ := hC1.cell
  have f2 := hC1.free 2
  have hq := lt_of_block hbx
  generalize w.heap.size = q at *
  have hqc : q ≠ c := by omega
  have q0 : w1.cell? ⟨q, 0, none⟩ = some (.int .u8 p.k.toNat) := by simp [World.cell?, hbx]
  have q1 : w1.cell? ⟨q, 1, none⟩ = some (.int .i64 p.n) := by simp [World.cell?, hbx]
  have q2 : w1.cell? ⟨q, 2, none⟩ = some (.string ⟨p.w.toArray⟩) := by simp [World.cell?, hbx]
  have hown := hC1.own
  have hoc : vo.ownBlock ≠ some c := fun e => by have := (hown.lt c e).1; omega
  have hfz : ∀ o, (w1.alloc o).frozen? ⟨c, 2, none⟩ = false := fun o => by rw [World.frozen?_alloc_old _ _ _ (by simp; omega)]; exact f2
  have hCc : ∀ o, (w1.alloc o).cell? ⟨c, 2, none⟩ = some vo := fun o => by rw [((Below.refl w1.heap.size w1).alloc (Nat.le_refl _) o).cell hc1]; exact c2
  have hB : ∀ o, Below w1.heap.size w1 (w1.alloc o).drew := fun o => ((Below.refl w1.heap.size w1).alloc (Nat.le_refl _) o).drew
  have HX := Lib.hid hx
  clear hx
  go_cut [] (fun wx => ∃ vo1, Cop c (.slice (some ⟨b, off, none⟩) l.length lcap) (.slice (some ⟨fb, foff, none⟩) l.length fcap) vo1 vn (at' : Int) (outs ++ [p]) nums wx ∧ Trans c vo vn w1 vo1 vn wx)
  case first =>
    go_region_law ((refine step_append_lies _ (by rfl) _ _ _ (by rfl) (c + 1) 23 i0 _ 3 32 Try.underlying27 hi0 hz0 hz1 hz2 rfl (by omega) vo outs.length (pcells outs) (by rfl) ((hown.alloc _).drew) ⟨w1.heap.size, 0, none⟩ 1 1 p.cells (by rfl) (by rfl) (World.news_of_block (cs := #[.int .u8 p.k.toNat, .int .i64 p.n, .string ⟨p.w.toArray⟩]) (t := 23) (fr := (0, 0)) (heap_alloc_new w1 _)) (by simp [Pt.cells, Value.oneCell']) (by omega) (by unfold maxLen; omega) (by omega) (by simp; omega) (w1.heap.size + 1) (by simp) ?_; intro gg cap w2 hown2 hgrow2 hat2 hlt2; have k2 : w2.cell? ⟨c, 2, none⟩ = some vo := (hgrow2.cell_far _ (by simp; omega) (Ne.symm hoc)).trans (hCc _); have z2 : w2.frozen? ⟨c, 2, none⟩ = false := (hgrow2.frozen_far _ (by simp; omega) (Ne.symm hoc)).trans (hfz _)))
    all_goals (go_wp2_with fail; go_meet)
    all_goals (have hX := Cop.outed (hC1.later (hB _)) hown2 hgrow2 (hat2.imp id (fun e => by rw [e]; simp)))
    all_goals exact ⟨_, hX.1, (Trans.below (hB _)).trans hX.2⟩
  case rest =>
    obtain ⟨vo1, hC2, hT2⟩ := hcut
    have hL2 := hL1.trans hC1 hT2
    have hq1 := Trans.keep hT2 hq hqc hqo hqn
    rw [← hq1] at q0 q1 q2
    have hqo1 : vo1.ownBlock ≠ some q := fun e => by rcases hT2.bo q e with e | e; exact hqo e; omega
    have hqs : q < wc.heap.size := Nat.lt_of_lt_of_le hq hT2.size
    have hT3 := hT1.trans hT2
    clear c0 c1 c2 c3 c4 f2 hown hoc hfz hCc hB hT1 hT2 hC1 hL1 hbx hq1
    obtain ⟨wd, hwd⟩ : ∃ wd, wd = wc := ⟨_, rfl⟩
    subst hwd
    obtain ⟨c0, c1, c2, c3, c4, hc2⟩ := hC2.cell
    have f3 := hC2.free 3
    have hown := hC2.onn
    have hnc : vn.ownBlock ≠ some c := fun e => by have := (hown.lt c e).1; omega
    have hfz : ∀ o, (wd.alloc o).frozen? ⟨c, 3, none⟩ = false := fun o => by rw [World.frozen?_alloc_old _ _ _ (by simp; omega)]; exact f3
    have hCc : ∀ o, (wd.alloc o).cell? ⟨c, 3, none⟩ = some vn := fun o => by rw [((Below.refl wd.heap.size wd).alloc (Nat.le_refl _) o).cell hc2]; exact c3
    have hB : ∀ o, Below wd.heap.size wd (wd.alloc o).drew := fun o => ((Below.refl wd.heap.size wd).alloc (Nat.le_refl _) o).drew
    have hy := hL2.ints at' x HX.out
    have hfb : fb < wd.heap.size := by have := hL2.lf; omega
    have hya : ∀ o, (wd.alloc o).cell? ⟨fb, foff + at', none⟩ = some (.int .i64 x) := fun o => by rw [((Below.refl wd.heap.size wd).alloc (Nat.le_refl _) o).cell hfb]; exact hy
    go_wp2_with fail
    go_cut [] (fun wx => ∃ vn1, Cop c (.slice (some ⟨b, off, none⟩) l.length lcap) (.slice (some ⟨fb, foff, none⟩) l.length fcap) vo1 vn1 (at' : Int) (outs ++ [p]) (nums ++ [x]) wx ∧ Trans c vo1 vn wd vo1 vn1 wx)
    case first =>
      go_region_law ((refine step_append_lies _ (by rfl) _ _ _ (by rfl) (c + 1) 3 i3 _ 1 8 Try.underlying28 hi3 hz3 hz4 hz5 rfl (by omega) vn nums.length (zvs nums) (by rfl) ((hown.alloc _).drew) ⟨wd.heap.size, 0, none⟩ 1 1 [.int .i64 x] (by rfl) (by rfl) (World.news_of_block (cs := #[.int .i64 x]) (t := 3) (fr := (0, 0)) (heap_alloc_new wd _)) (by simp [Value.oneCell']) (by omega) (by unfold maxLen; omega) (by omega) (by simp; omega) (wd.heap.size + 1) (by simp) ?_; intro gg cap w2 hown2 hgrow2 hat2 hlt2; have k2 : w2.cell? ⟨c, 3, none⟩ = some vn := (hgrow2.cell_far _ (by simp; omega) (Ne.symm hnc)).trans (hCc _); have z2 : w2.frozen? ⟨c, 3, none⟩ = false := (hgrow2.frozen_far _ (by simp; omega) (Ne.symm hnc)).trans (hfz _)))
      all_goals (go_wp2_with fail; go_meet)
      all_goals (have hX := Cop.numbered (hC2.later (hB _)) hown2 hgrow2 (hat2.imp id (fun e => by rw [e]; simp)))
      all_goals exact ⟨_, hX.1, (Trans.below (hB _)).trans hX.2⟩
    case rest =>
      obtain ⟨vn1, hC3, hT4⟩ := hcut
      have hL3 := hL2.trans hC2 hT4
      have hq1 := Trans.keep hT4 hqs hqc hqo1 hqn
      rw [← hq1] at q0 q1 q2
      have hqn1 : vn1.ownBlock ≠ some q := fun e => by rcases hT4.bn q e with e | e; exact hqn e; omega
      have hqs2 : q < wc.heap.size := Nat.lt_of_lt_of_le hqs hT4.size
      have hT5 := hT3.trans hT4
      clear c0 c1 c2 c3 c4 f3 hown hnc hfz hCc hB hT3 hT4 hC2 hL2 hq1 hy hya
      obtain ⟨c0, c1, c2, c3, c4, hc3⟩ := hC3.cell
      have f4 := hC3.free 4
      go_wp2_with fail
      have hM := hC3.moved ((at' : Int) + 1)
      refine (hE vo1 vn1 _ hM.1 (hL3.trans hC3 hM.2)).mono ?_
      rintro e w9 ⟨vo9, vn9, rfl, hC9, hT9⟩
      have hT8 := (hT5.trans hM.2).trans hT9
      clear hM c0 c1 c2 c3 c4 f4 hE hT5 hT9 hL3
      go_wp2_with fail
      go_end0
      exact ⟨vo9, vn9, rfl, hC9, hT8⟩
end Go.Proofs.Ytgmkokophcmbnaa
