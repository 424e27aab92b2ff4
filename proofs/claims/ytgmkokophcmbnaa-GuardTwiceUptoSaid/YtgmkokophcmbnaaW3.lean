import Derived.Test.YtgmkokophcmbnaaW2
import Derived.Maps.AppendAt
import Derived.Deep.DeepCutAuto
namespace Go.Proofs.Ytgmkokophcmbnaa
open Go.RowKit

/-- the ends of a suffix that begins at i, and what is open, the nearest first -/
def endsL : List Int → Nat → Option (List Nat × List Nat)
  | [], _ => some ([], [])
  | k :: r, i => match endsL r (i + 1) with
    | none => none
    | some (o, st) => if 0 ≤ k ∧ k ≤ st.length then some ((if k = 0 then i + 1 else o.getD (st.getD (k.toNat - 1) 0 - (i + 1)) 0) :: o, i :: st.drop k.toNat) else none
def ivs (l : List Nat) : List Value := l.map fun (n : Nat) => Value.int .i64 (n : Int)
def zer (i : Nat) : List Value := List.replicate i (Value.int .i64 0)
theorem endsL_len : ∀ (ks : List Int) (i : Nat) (o st : List Nat), endsL ks i = some (o, st) → o.length = ks.length ∧ st.length ≤ ks.length ∧ ∀ x ∈ st, i ≤ x ∧ x < i + ks.length
  | [], i, o, st, h => by simp only [endsL, Option.some.injEq, Prod.mk.injEq] at h; obtain ⟨rfl, rfl⟩ := h; simp
  | k :: r, i, o, st, h => by
    rw [endsL] at h
    cases hr : endsL r (i + 1) with
    | none => rw [hr] at h; cases h
    | some x =>
      obtain ⟨o', st'⟩ := x
      have ih := endsL_len r (i + 1) o' st' hr
      rw [hr] at h
      simp only [] at h
      split at h
      · simp only [Option.some.injEq, Prod.mk.injEq] at h
        obtain ⟨rfl, rfl⟩ := h
        refine ⟨by simp [ih.1], by simp; omega, ?_⟩
        intro x hx
        rcases List.mem_cons.1 hx with rfl | hx
        · simp
        · have := ih.2.2 x (List.mem_of_mem_drop hx); simp; omega
      · cases h
theorem endsL_none (ks : List Int) (_ : ∀ j, j ≤ ks.length → True) : ∀ i, i ≤ ks.length → endsL (ks.drop i) i = none → endsL ks 0 = none := by
  intro i
  induction i with
  | zero => intro _ h; simpa using h
  | succ i ih =>
    intro hi hn
    apply ih (by omega)
    rw [List.drop_eq_getElem_cons (by omega), endsL, hn]
theorem own_take {w : World} {base : Nat} {e : TypeId} {size : Nat} {a : Option Addr} {n cap m : Nat} {xs : List Value} (hm : m ≤ n)
    (h : w.ownsRow base e size (.slice a n cap) n xs) : w.ownsRow base e size (.slice a m cap) m (xs.take (m * size)) := by
  obtain ⟨h1, h2⟩ := h
  rcases h2 with ⟨h0, h3⟩ | ⟨g, cap', cur, hv, hg, hh, hn, hcap, hsz, htake⟩
  · cases h0
    have : m = 0 := by omega
    subst this
    exact ⟨by simp, .inl ⟨rfl, rfl⟩⟩
  · cases hv
    refine ⟨by rw [List.length_take, h1]; exact Nat.min_eq_left (Nat.mul_le_mul_right _ hm), .inr ⟨g, cap, cur, rfl, hg, hh, by omega, hcap, hsz, ?_⟩⟩
    rw [← htake, List.take_take, Nat.min_eq_left (Nat.mul_le_mul_right _ hm)]
theorem own_shape {w : World} {base : Nat} {e : TypeId} {size : Nat} {v : Value} {n : Nat} {xs : List Value} (h : w.ownsRow base e size v n xs) : ∃ a cap, v = .slice a n cap := by
  rcases h.2 with ⟨rfl, rfl⟩ | ⟨g, cap, cur, rfl, _⟩
  · exact ⟨_, _, rfl⟩
  · exact ⟨_, _, rfl⟩
theorem own_cap {w : World} {base : Nat} {e : TypeId} {size : Nat} {a : Option Addr} {n cap : Nat} {xs : List Value} (h : w.ownsRow base e size (.slice a n cap) n xs) : n ≤ cap := by
  rcases h.2 with ⟨h0, h3⟩ | ⟨g, cap', cur, hv, hg, hh, hn, _⟩
  · omega
  · cases hv; exact hn
theorem one_int (k : IntKind) (n : Int) : ∀ u ∈ [Value.int k n], u.oneCell' = true := by
  intro u hu; simp at hu; subst hu; rfl
theorem Try.info3 : (Try.prog.info? 3).map (fun i => (i.zero, i.size, i.bytes)) = some (some (.int .i64 0), 1, 8) := by kernel_rfl

/-- what term.ends answers -/
def EndsPost (ks : List Int) (w : World) (e : Ending) (w' : World) : Prop := Below w.heap.size w w' ∧
      match endsL ks 0 with
      | none => e = .returned (.tuple #[.slice none 0 0, .int .i64 0, .bool false])
      | some (o, st) => ∃ vo, e = .returned (.tuple #[vo, .int .i64 (st.length : Nat), .bool true]) ∧ w'.ownsRow w.heap.size 3 1 vo o.length (ivs o)
theorem EndsPost.no {ks : List Int} {w w' : World} (h : endsL ks 0 = none) (hb : Below w.heap.size w w') : EndsPost ks w (.returned (.tuple #[.slice none 0 0, .int .i64 0, .bool false])) w' := by
  unfold EndsPost; rw [h]; exact ⟨hb, rfl⟩
theorem EndsPost.yes {ks : List Int} {w w' : World} {o st : List Nat} {vo : Value} {n : Int} (h : endsL ks 0 = some (o, st)) (hb : Below w.heap.size w w') (hn : n = (st.length : Nat)) (ho : w'.ownsRow w.heap.size 3 1 vo o.length (ivs o)) :
    EndsPost ks w (.returned (.tuple #[vo, .int .i64 n, .bool true])) w' := by
  unfold EndsPost; rw [h]; exact ⟨hb, vo, by rw [hn], ho⟩
theorem zer_set (j : Nat) (o : List Nat) (u : Value) : (zer (j + 1) ++ ivs o).set j u = zer j ++ u :: ivs o := by
  unfold zer
  rw [List.replicate_succ', List.append_assoc, List.set_append_right _ _ (by simp)]; simp
theorem set_again (j : Nat) (o : List Nat) (u v : Value) : (zer j ++ u :: ivs o).set j v = zer j ++ v :: ivs o := by
  unfold zer
  rw [List.set_append_right _ _ (by simp)]; simp
theorem ends_step (ks : List Int) (j : Nat) (hj : j < ks.length) (o st : List Nat) (h : endsL (ks.drop (j + 1)) (j + 1) = some (o, st)) :
    endsL (ks.drop j) j = if 0 ≤ ks[j] ∧ ks[j] ≤ st.length then some ((if ks[j] = 0 then j + 1 else o.getD (st.getD (ks[j].toNat - 1) 0 - (j + 1)) 0) :: o, j :: st.drop ks[j].toNat) else none := by
  rw [List.drop_eq_getElem_cons hj, endsL, h]
theorem rev_drop (st : List Nat) (k : Nat) (_ : k ≤ st.length) (j : Nat) : ivs (j :: st.drop k).reverse = (ivs st.reverse).take ((st.length - k) * 1) ++ [Value.int .i64 (j : Int)] := by
  unfold ivs
  rw [List.reverse_cons, List.map_append, ← List.map_take, Nat.mul_one]
  congr 2
  rw [List.reverse_drop, ]
theorem rev_get (st : List Nat) (k : Nat) (h0 : 0 < k) (hk : k ≤ st.length) : (ivs st.reverse)[st.length - k]? = some (Value.int .i64 ((st.getD (k - 1) 0 : Nat) : Int)) := by
  unfold ivs
  rw [List.getElem?_map, List.getElem?_reverse (by omega), show st.length - 1 - (st.length - k) = k - 1 from by omega, List.getElem?_eq_getElem (by omega)]
  simp [List.getD, List.getElem?_eq_getElem (show k - 1 < st.length by omega)]

set_option maxHeartbeats 4000000 in
theorem ends_any (b off cap : Nat) (l : List Pt) (w : World) (hl : l.length ≤ 1099511627776) (hb : b < w.heap.size)
    (hc : ∀ j p, l[j]? = some p → w.cell? ⟨b, off + j * 3 + 1, none⟩ = some (.int .i64 p.n)) :
    Calls Try.prog 27 #[.slice (some ⟨b, off, none⟩) l.length cap] w (EndsPost (l.map Pt.n) w) := by
  obtain ⟨i0, hi, hz0, hz1, hz2⟩ := info_parts Try.info3
  go_enter Try.func27, Try.ntmps27
  go_wp2_with (refine wpList_make_full _ rfl _ _ 28 rfl w.heap.size 3 i0 (.int .i64 0) 1 Try.underlying28 hi hz0 hz1 .i64 .i64 l.length l.length l.length rfl rfl rfl rfl (by rw [hz2]; omega) (by unfold maxLen; omega) (Nat.le_refl _) ?_; intro w1 hown hgrow)
  go_loopw [6, 7] (fun vo u wr => ∃ (i : Nat) (q : Int) (o st : List Nat), i ≤ l.length ∧ u = .int .i64 q ∧ (i : Int) = q + 1 ∧ endsL ((l.map Pt.n).drop i) i = some (o, st) ∧
      wr.ownsRow w.heap.size 3 1 (.slice (some ⟨w.heap.size, 0, none⟩) l.length l.length) l.length (zer i ++ ivs o) ∧ wr.ownsRow (w.heap.size + 1) 3 1 vo st.length (ivs st.reverse) ∧ Below w.heap.size w wr)
    (fun _ u _ => ((intOf u) + 1).toNat)
  case atStart =>
    refine ⟨l.length, (l.length : Int) - 1, [], [], Nat.le_refl _, rfl, by omega, ?_, ?_, World.ownsRow_nil _ _ _ _, (Below.refl _ _).grown hgrow (Nat.le_refl _) (fun k h => by cases h)⟩
    · rw [List.drop_of_length_le (by simp)]; rfl
    · have e1 : (madeCells (Value.int IntKind.i64 0).cells (l.length * 1)).toList = zer l.length ++ ivs [] := by
        rw [show (Value.int IntKind.i64 0).cells = #[Value.int IntKind.i64 0] from rfl, toList_madeCells_one]; simp [zer, ivs]
      rw [← e1]; exact hown
  case round =>
    obtain ⟨i, q, o, st, hi1, rfl, hq, hends, hown1, hown2, hbel⟩ := hrel
    obtain ⟨hlo, hls, hst⟩ := endsL_len _ _ _ _ hends
    simp only [List.length_drop, List.length_map] at hlo hls hst
    have HE := Lib.hid hends
    have HO := Lib.hid hlo
    have HS := Lib.hid hst
    obtain ⟨oa, ocap, rfl⟩ := own_shape hown2
    clear hends hlo hst hown hgrow
    by_cases hneg : q < 0
    · have hi0 : i = 0 := by omega
      subst hi0
      have HF : Hid (endsL (l.map Pt.n) 0 = some (o, st)) := by have := HE.out; rw [List.drop_zero] at this; exact this
      clear HE
      go_wp2_with fail
      go_ret3
      refine EndsPost.yes HF.out hbel rfl ?_
      rw [HO.out]; simpa [zer] using hown1
    · obtain ⟨j, rfl⟩ := Int.eq_ofNat_of_zero_le (show 0 ≤ q by omega)
      obtain rfl : i = j + 1 := by omega
      have hj : j < l.length := by omega
      have hcj := hc j l[j] (List.getElem?_eq_getElem hj)
      rw [← hbel.cell hb] at hcj
      have hstep := ends_step (l.map Pt.n) j (by simpa using hj) o st HE.out
      simp only [List.getElem_map] at hstep
      generalize hk : (l[j]).n = k at *
      have HST := Lib.hid hstep
      have HC := Lib.hid hc
      have hnone : endsL ((l.map Pt.n).drop j) j = none → endsL (l.map Pt.n) 0 = none := endsL_none (l.map Pt.n) (fun _ _ => trivial) j (by simp; omega)
      have HN := Lib.hid hnone
      clear hk hc hneg hq hstep hnone
      by_cases hk0 : k < 0
      · have HB : Hid (endsL (l.map Pt.n) 0 = none) := HN.out (by rw [HST.out, if_neg (by omega)])
        go_wp2_with fail
        go_ret3
        exact EndsPost.no HB.out hbel
      · by_cases hk1 : (st.length : Int) < k
        · have HB : Hid (endsL (l.map Pt.n) 0 = none) := HN.out (by rw [HST.out, if_neg (by omega)])
          go_wp2_with fail
          go_ret3
          exact EndsPost.no HB.out hbel
        · obtain ⟨kk, rfl⟩ := Int.eq_ofNat_of_zero_le (show 0 ≤ k by omega)
          have hkk : kk ≤ st.length := by omega
          have HST2 : Hid (endsL ((l.map Pt.n).drop j) j = some ((if (kk : Int) = 0 then j + 1 else o.getD (st.getD (kk - 1) 0 - (j + 1)) 0) :: o, j :: st.drop kk)) := by
            have := HST.out; rw [if_pos (by omega), Int.toNat_natCast] at this; exact this
          have hjn : j < l.length * 1 := by omega
          have hcell1 := hown1.cellAt j hjn
          have hfz := hown1.frozenAt j
          have e0 : (zer (j + 1) ++ ivs o)[j]? = some (Value.int .i64 0) := by
            rw [List.getElem?_append_left (by simp [zer])]; simp [zer]
          rw [e0] at hcell1
          have hw2 := hown1.stored j (.int .i64 ((j : Int) + 1))
          rw [zer_set] at hw2
          clear HST HN HE e0
          go_upto_region 10 with fail
          have hown1' := hw2.1
          have hown2' := hown2.kept hw2.2 (by
            rcases oa with _ | ⟨g, go, gp⟩
            · exact .inl rfl
            · right
              have := (hown2.lt g rfl).1
              simp [Value.ownBlock]; omega)
          have hbel' := hbel.grown hw2.2 hbel.size (fun k h => by cases h; exact Nat.le_refl _)
          generalize wr.setCell ⟨w.heap.size, j, none⟩ (.int .i64 ((j : Int) + 1)) = w2 at *
          clear hw2 hown1 hown2 hbel hcell1 hfz hcj
          have hfin : ∀ E : Nat, E = (if (kk : Int) = 0 then j + 1 else o.getD (st.getD (kk - 1) 0 - (j + 1)) 0) → endsL ((l.map Pt.n).drop j) j = some (E :: o, j :: st.drop kk) := fun E e => by rw [e]; exact HST2.out
          have HFIN := Lib.hid hfin
          clear hfin HST2
          by_cases hk2 : kk = 0
          · subst hk2
            have HF : Hid (endsL ((l.map Pt.n).drop j) j = some ((j + 1) :: o, j :: st.drop 0)) := HFIN.out (j + 1) (by simp)
            clear HFIN
            go_upto_region 12 with fail
            have hcap := own_cap hown2'
            have hot := own_take (m := st.length - 0) (by omega) hown2'
            have hblk := hown2'.lt
            have h63 : st.length - 0 + 1 ≤ maxLen := by unfold maxLen; omega
            have hby : (st.length - 0 + 1) * 8 ≤ 140737488355328 := by omega
            have hbase : w.heap.size + 1 ≤ (w2.alloc (Obj.cells #[.int .i64 (j : Int)] 3)).heap.size := by have := hbel'.size; simp; omega
            clear hown2'
            go_wp2_with (at_builtin; refine wpList_append_own_at _ rfl (.tmp 57) (.tmp 59) 28 rfl (w.heap.size + 1) 3 i0 (.int .i64 0) 1 8 Try.underlying28 hi hz0 hz1 hz2 rfl (by decide) _ _ _ rfl (hot.alloc _) ⟨w2.heap.size, 0, none⟩ 1 1 [.int .i64 (j : Int)] rfl rfl (cell_one_new _ _ _) (one_int _ _) h63 hby hbase ?_)
            intro v' w4 hown hgrow _ hat
            have hA := (hown1'.alloc (Obj.cells #[.int .i64 (j : Int)] 3)).kept hgrow (by
              right
              intro e
              have := hblk w.heap.size e.symm
              omega)
            have hbl := (hbel'.alloc hbel'.size (Obj.cells #[.int .i64 (j : Int)] 3)).grown hgrow (by have := hbel'.size; simp; omega) (fun k h => by have := (hblk k h).1; omega)
            clear hgrow hot hown1' hbel' hat hblk
            go_wp2_with fail
            go_roundw
            case rel =>
              refine ⟨j, (j : Int) - 1, (j + 1) :: o, j :: st.drop 0, by omega, rfl, by omega, HF.out, hA, ?_, hbl⟩
              rw [rev_drop st 0 (by omega)]
              simpa using hown
            case measure => simp [intOf]
          · have hidx := HS.out (st.getD (kk - 1) 0) (by
              rw [List.getD_eq_getElem?_getD, List.getElem?_eq_getElem (by omega)]; exact List.getElem_mem _)
            have hrg := rev_get st kk (by omega) hkk
            have HF : Hid (endsL ((l.map Pt.n).drop j) j = some (o.getD (st.getD (kk - 1) 0 - (j + 1)) 0 :: o, j :: st.drop kk)) := HFIN.out _ (by rw [if_neg (by omega)])
            clear HFIN
            generalize st.getD (kk - 1) 0 = x at *
            obtain ⟨hx1, hx2⟩ := hidx
            obtain ⟨g, hg⟩ : ∃ g, oa = some ⟨g, 0, none⟩ := by
              rcases hown2'.2 with ⟨_, hz⟩ | ⟨g, _, _, hv, _⟩
              · omega
              · cases hv; exact ⟨g, rfl⟩
            subst hg
            have hcg := hown2'.cellAt (st.length - kk) (by omega)
            rw [hrg] at hcg
            have hcx := hown1'.cellAt x (by omega)
            have ex : (zer j ++ Value.int IntKind.i64 (↑j + 1) :: ivs o)[x]? = some (Value.int .i64 ((o.getD (x - (j + 1)) 0 : Nat) : Int)) := by
              rw [List.getElem?_append_right (by simp [zer]; omega)]
              simp only [zer, List.length_replicate]
              obtain ⟨y, hy⟩ : ∃ y, x - j = y + 1 := ⟨x - j - 1, by omega⟩
              have := HO.out
              rw [hy, List.getElem?_cons_succ, ivs, List.getElem?_map, List.getElem?_eq_getElem (by omega)]
              simp [List.getD, show x - (j + 1) = y from by omega, List.getElem?_eq_getElem (show y < o.length by omega)]
            rw [ex] at hcx
            have hcj := hown1'.cellAt j (by omega)
            have ej : (zer j ++ Value.int IntKind.i64 (↑j + 1) :: ivs o)[j]? = some (Value.int .i64 ((j : Int) + 1)) := by
              rw [List.getElem?_append_right (by simp [zer])]; simp [zer]
            rw [ej] at hcj
            have hfz := hown1'.frozenAt j
            have hw3 := hown1'.stored j (.int .i64 ((o.getD (x - (j + 1)) 0 : Nat) : Int))
            rw [set_again] at hw3
            generalize o.getD (x - (j + 1)) 0 = E at *
            clear ex ej hrg
            go_upto_region 12 with fail
            have hown1'' := hw3.1
            have hown2'' := hown2'.kept hw3.2 (by
              right
              have := (hown2'.lt g rfl).1
              simp [Value.ownBlock]; omega)
            have hbel'' := hbel'.grown hw3.2 hbel'.size (fun k h => by cases h; exact Nat.le_refl _)
            generalize w2.setCell ⟨w.heap.size, j, none⟩ (.int .i64 (E : Int)) = w3 at *
            clear hw3 hown1' hown2' hbel' hcg hcx hcj hfz
            have hcap := own_cap hown2''
            have hot := own_take (m := st.length - kk) (by omega) hown2''
            have hblk := hown2''.lt
            have h63 : st.length - kk + 1 ≤ maxLen := by unfold maxLen; omega
            have hby : (st.length - kk + 1) * 8 ≤ 140737488355328 := by omega
            have hbase : w.heap.size + 1 ≤ (w3.alloc (Obj.cells #[.int .i64 (j : Int)] 3)).heap.size := by have := hbel''.size; simp; omega
            clear hown2''
            go_wp2_with (at_builtin; refine wpList_append_own_at _ rfl (.tmp 57) (.tmp 59) 28 rfl (w.heap.size + 1) 3 i0 (.int .i64 0) 1 8 Try.underlying28 hi hz0 hz1 hz2 rfl (by decide) _ _ _ rfl (hot.alloc _) ⟨w3.heap.size, 0, none⟩ 1 1 [.int .i64 (j : Int)] rfl rfl (cell_one_new _ _ _) (one_int _ _) h63 hby hbase ?_)
            intro v' w4 hown hgrow _ hat
            have hA := (hown1''.alloc (Obj.cells #[.int .i64 (j : Int)] 3)).kept hgrow (by
              right
              intro e
              have := hblk w.heap.size e.symm
              omega)
            have hbl := (hbel''.alloc hbel''.size (Obj.cells #[.int .i64 (j : Int)] 3)).grown hgrow (by have := hbel''.size; simp; omega) (fun k h => by have := (hblk k h).1; omega)
            clear hgrow hot hown1'' hbel'' hat hblk
            go_wp2_with fail
            go_roundw
            case rel =>
              refine ⟨j, (j : Int) - 1, E :: o, j :: st.drop kk, by omega, rfl, by omega, HF.out, hA, ?_, hbl⟩
              rw [rev_drop st kk (by omega)]
              simpa using hown
            case measure => simp [intOf]
end Go.Proofs.Ytgmkokophcmbnaa
