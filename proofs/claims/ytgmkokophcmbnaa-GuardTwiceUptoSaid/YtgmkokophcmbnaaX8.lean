import Derived.Test.YtgmkokophcmbnaaX7
import Derived.Test.YtgmkokophcmbnaaV8
namespace Go.Proofs.Ytgmkokophcmbnaa
open Go.RowKit

/-- what Kids answers -/
def KidsPost (w : World) (ks : List Nat) (e : Ending) (w' : World) : Prop := Below w.heap.size w w' ∧ ∃ v, e = .returned v ∧ w'.ownsRow w.heap.size 3 1 v ks.length (ivs ks)
/-- ahead of a round -/
def KidsAt (l : List Pt) (q : Pt) (K : Fo) (i : Nat) (rest : List Pt) (w : World) (u5 u6 u7 : Value) (w' : World) : Prop :=
  ∃ (f : Fo) (j m : Nat) (d : List Nat), u6 = .int .i64 (j : Int) ∧ u7 = .int .i64 (m : Int) ∧ ((f.count + m : Nat) : Int) = q.n ∧ f.good ∧ l.drop j = f.flat ++ rest ∧ d ++ starts f j = starts K (i + 1) ∧
    w'.ownsRow w.heap.size 3 1 u5 d.length (ivs d) ∧ Below w.heap.size w w'
set_option maxHeartbeats 4000000 in
theorem Kids_any (b off cap : Nat) (l : List Pt) (i : Nat) (q : Pt) (K : Fo) (rest : List Pt) (w : World) (hl : l.length ≤ 300) (hb : b < w.heap.size)
    (hc : ∀ (j : Nat) (p : Pt), l[j]? = some p → w.cell? ⟨b, off + j * 3 + 1, none⟩ = some (.int .i64 p.n))
    (hd : l.drop i = q :: (K.flat ++ rest)) (hk : (K.count : Int) = q.n) (hg : K.good) :
    Calls Try.prog 21 #[.slice (some ⟨b, off, none⟩) l.length cap, .int .i64 (i : Int)] w (KidsPost w (starts K (i + 1))) := by
  have hlq : l[i]? = some q := by
    have h0 : (l.drop i)[0]? = some q := by rw [hd]; rfl
    simpa using h0
  have hil : i < l.length := by
    rcases Nat.lt_or_ge i l.length with h | h
    · exact h
    · rw [List.getElem?_eq_none h] at hlq; cases hlq
  have hci := hc i q hlq
  have hd1 : l.drop (i + 1) = K.flat ++ rest := by
    have : l.drop (i + 1) = (l.drop i).drop 1 := by rw [List.drop_drop]
    rw [this, hd]; rfl
  have HST := Lib.hid (show KidsAt l q K i rest w (.slice none 0 0) (.int .i64 ((i : Int) + 1)) (.int .i64 0) w from ⟨K, i + 1, 0, [], by simp, rfl, by simpa using hk, hg, hd1, by simp, World.ownsRow_nil _ _ _ _, Below.refl _ _⟩)
  have hKs : K.size ≤ 300 := by
    have := congrArg List.length hd
    simp only [List.length_drop, List.length_cons, List.length_append, Fo.flat_len] at this
    omega
  have hqn : q.n ≤ 300 := by have := Fo.count_le K; omega
  have HC := Lib.hid hc
  have i0 : (0 : Int) ≤ (i : Int) := by omega
  have i1 : (i : Int) < (l.length : Int) := by omega
  clear hc hd hk hg hd1 hlq
  go_enter Try.func21, Try.ntmps21
  go_wp2_with fail
  go_loopw [5, 6, 7] (fun u5 u6 u7 w' => KidsAt l q K i rest w u5 u6 u7 w') (fun _ _ u7 _ => (q.n - intOf u7).toNat)
  case atStart => exact HST.out
  case round =>
    obtain ⟨f, j, m, d, rfl, rfl, hcnt, hgood, hdrop, hst, hown, hbel⟩ := hrel
    have hcr : wr.cell? ⟨b, off + i * 3 + 1, none⟩ = some (.int .i64 q.n) := by rw [hbel.cell hb]; exact hci
    cases f with
    | nil =>
      have hdec : decide ((m : Int) < q.n) = false := decide_eq_false (by simp [Fo.count] at hcnt; omega)
      have hdd : d = starts K (i + 1) := by simpa [starts] using hst
      subst hdd
      clear hcnt hst hdrop HST
      go_wp2_with fail
      go_ret
      exact ⟨hbel, _, rfl, hown⟩
    | cons p k r =>
      have hdec : decide ((m : Int) < q.n) = true := decide_eq_true (by simp [Fo.count] at hcnt; omega)
      obtain ⟨hp1, hp2, hp3⟩ := hgood
      have hdr : l.drop j = p :: (k.flat ++ (r.flat ++ rest)) := by rw [hdrop]; simp [Fo.flat]
      have hend := endR_tree l j p k (r.flat ++ rest) hdr hp1 hp2
      have hlen := congrArg List.length hdr
      simp only [List.length_drop, List.length_cons, List.length_append, Fo.flat_len] at hlen
      have hsl : d.length ≤ 300 := by
        have h1 := congrArg List.length hst
        rw [List.length_append, starts_len, starts_len] at h1
        have h2 := Fo.count_le K
        omega
      have HEND := Lib.hid hend
      have HALL := Lib.hid (And.intro hcnt (And.intro hp3 (And.intro hdr hst)))
      have hj3 : j ≤ 300 := by omega
      have hm3 : (m : Int) < 300 := by have := of_decide_eq_true hdec; omega
      obtain ⟨i3, hi3, hz3, hz4, hz5⟩ := info_parts Try.info3
      obtain ⟨oa, ocap, rfl⟩ := own_shape hown
      have hcap := own_cap hown
      have hbase : w.heap.size + 0 ≤ (wr.alloc (Obj.cells #[.int .i64 (j : Int)] 3)).heap.size := by have := hbel.size; simp; omega
      go_wp2_with (at_builtin; refine wpList_append_own_at _ rfl (.tmp 19) (.tmp 21) 28 rfl w.heap.size 3 i3 (.int .i64 0) 1 8 Try.underlying28 hi3 hz3 hz4 hz5 rfl (by decide) _ _ _ rfl (hown.alloc _) ⟨wr.heap.size, 0, none⟩ 1 1 [.int .i64 (j : Int)] rfl rfl (cell_one_new _ _ _) (one_int _ _) (by unfold maxLen; omega) (by omega) hbase ?_)
      intro v' w4 hown4 hgrow _ hat
      have hbl := (hbel.alloc hbel.size (Obj.cells #[.int .i64 (j : Int)] 3)).grown hgrow (by have := hbel.size; simp; omega) (fun k h => by have := (hown.lt k h).1; omega)
      have HE := Lib.hid (End_any b off cap l j w4 hl hj3 (fun jj pp hjj => by rw [hbl.cell (p := ⟨b, off + jj * 3 + 1, none⟩) hb]; exact HC.out jj pp hjj))
      rw [hend] at HE
      clear hown hgrow hat hbel hcap hbase hcnt hdrop hdr hst hend hlen hcr
      go_wp2_with fail
      refine HE.out.mono ?_
      rintro e w5 ⟨rfl, hb5⟩
      have hown5 := ownsRow_below hown4 hb5
      have hbl5 := bthen hbl hb5
      clear hown4 hbl hb5
      go_wp2_with fail
      go_roundw
      case rel =>
        obtain ⟨g1, g2, g3, g4⟩ := HALL.out
        refine ⟨r, j + 1 + k.size, m + 1, d ++ [j], by go_num, by go_num, by simp only [Fo.count] at g1; omega, g2, ?_, by rw [← g4]; simp [starts], ?_, hbl5⟩
        · have : l.drop (j + 1 + k.size) = (l.drop j).drop (1 + k.size) := by rw [List.drop_drop]; congr 1; omega
          rw [this, g3, Nat.add_comm 1, List.drop_succ_cons, ← Fo.flat_len, List.drop_left]
        · simpa [ivs] using hown5
      case measure => have := of_decide_eq_true hdec; simp only [intOf]; first | omega | (go_num; omega) | go_num
end Go.Proofs.Ytgmkokophcmbnaa
