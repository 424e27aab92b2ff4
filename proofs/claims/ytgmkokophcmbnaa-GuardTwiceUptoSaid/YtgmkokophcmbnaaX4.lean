import Derived.Test.YtgmkokophcmbnaaX3
import Derived.Test.YtgmkokophcmbnaaV7
namespace Go.Proofs.Ytgmkokophcmbnaa
open Go.RowKit

/-- what the reference's End answers -/
def endR (l : List Pt) (i : Nat) : Int := match endN l.length ((l.map Pt.n).drop i) 1 with
  | some c => ((i + c : Nat) : Int)
  | none => -1
/-- ahead of a round -/
def EndAt (l : List Pt) (i : Nat) (u1 u5 : Value) : Prop := ∃ (j n : Nat), u1 = .int .i64 (j : Int) ∧ u5 = .int .i64 (n : Int) ∧ j ≤ i + l.length ∧ n ≤ 1 + 300 * j ∧ i ≤ j ∧ (n = 0 ∨ j ≤ l.length ∨ j = i) ∧
  endN l.length ((l.map Pt.n).drop i) 1 = (endN l.length ((l.map Pt.n).drop j) n).map (· + (j - i))
theorem endN_step (l : List Pt) (j n : Nat) (p : Pt) (hp : l[j]? = some p) : endN l.length ((l.map Pt.n).drop j) (n + 1) = if p.n < 0 ∨ (l.length : Int) < p.n then none else (endN l.length ((l.map Pt.n).drop (j + 1)) (n + p.n.toNat)).map (· + 1) := by
  have h1 : j < l.length := by
    rcases Nat.lt_or_ge j l.length with h | h
    · exact h
    · rw [List.getElem?_eq_none h] at hp; cases hp
  rw [List.getElem?_eq_getElem h1] at hp
  cases hp
  rw [List.drop_eq_getElem_cons (by simpa using h1), endN, List.getElem_map]
theorem endN_out (l : List Pt) (j n : Nat) (h : l.length ≤ j) : endN l.length ((l.map Pt.n).drop j) (n + 1) = none := by
  rw [List.drop_of_length_le (by simpa using h)]; rfl
theorem endR_none {l : List Pt} {i j n : Nat} (h : endN l.length ((l.map Pt.n).drop i) 1 = (endN l.length ((l.map Pt.n).drop j) n).map (· + (j - i))) (h2 : endN l.length ((l.map Pt.n).drop j) n = none) : endR l i = -1 := by
  unfold endR; rw [h, h2]; rfl

set_option maxHeartbeats 2000000 in
theorem End_any (b off cap : Nat) (l : List Pt) (i : Nat) (w : World) (hl : l.length ≤ 300) (hi : i ≤ 300)
    (hc : ∀ (j : Nat) (p : Pt), l[j]? = some p → w.cell? ⟨b, off + j * 3 + 1, none⟩ = some (.int .i64 p.n)) :
    Calls Try.prog 26 #[.slice (some ⟨b, off, none⟩) l.length cap, .int .i64 (i : Int)] w fun e w' => e = .returned (.int .i64 (endR l i)) ∧ Below w.heap.size w w' := by
  have HC := Lib.hid hc
  clear hc
  go_enter Try.func26, Try.ntmps26
  go_wp2_with fail
  go_loopw [1, 5] (fun u1 u5 w' => EndAt l i u1 u5 ∧ w' = w) (fun u1 _ _ => ((l.length + i : Int) + 1 - intOf u1).toNat)
  case atStart => exact ⟨⟨i, 1, rfl, rfl, by omega, by omega, by omega, .inr (.inr rfl), by simp⟩, rfl⟩
  case round =>
    obtain ⟨⟨j, n, rfl, rfl, hj, hn, hij, hor, heq⟩, rfl⟩ := hrel
    have HQ := Lib.hid heq
    clear heq
    cases n with
    | zero =>
      go_wp2_with fail
      go_ret
      refine ⟨ret_int ?_, Below.refl _ _⟩
      have : endN l.length ((l.map Pt.n).drop j) 0 = some 0 := by cases (l.map Pt.n).drop j <;> rfl
      unfold endR; rw [HQ.out, this]; simp; omega
    | succ n =>
      by_cases hlt : j < l.length
      · have hcj := HC.out j l[j] (List.getElem?_eq_getElem hlt)
        have hst := endN_step l j n l[j] (List.getElem?_eq_getElem hlt)
        generalize l[j].n = k at *
        have HST := Lib.hid hst
        have j0 : (0 : Int) ≤ (j : Int) := by omega
        have j1 : (j : Int) < (l.length : Int) := by omega
        clear hst
        by_cases hk0 : k < 0
        · have HR := Lib.hid (endR_none HQ.out (by rw [HST.out, if_pos (.inl hk0)]))
          go_wp2_with fail
          go_ret
          exact ⟨ret_int (by rw [HR.out]), Below.refl _ _⟩
        · by_cases hk1 : (l.length : Int) < k
          · have HR := Lib.hid (endR_none HQ.out (by rw [HST.out, if_pos (.inr hk1)]))
            go_wp2_with fail
            go_ret
            exact ⟨ret_int (by rw [HR.out]), Below.refl _ _⟩
          · obtain ⟨kk, rfl⟩ := Int.eq_ofNat_of_zero_le (show 0 ≤ k by omega)
            have hnx : endN l.length ((l.map Pt.n).drop i) 1 = (endN l.length ((l.map Pt.n).drop (j + 1)) (n + kk)).map (· + (j + 1 - i)) := by
              rw [HQ.out, HST.out, if_neg (by omega), Int.toNat_natCast]
              cases endN l.length ((l.map Pt.n).drop (j + 1)) (n + kk) with
              | none => rfl
              | some x => simp; omega
            have HNX := Lib.hid hnx
            clear hnx
            go_wp2_with fail
            go_roundw
            case rel => exact ⟨⟨j + 1, n + kk, by go_num, by go_num, by omega, by omega, by omega, .inr (.inl (by omega)), HNX.out⟩, trivial⟩
            case measure => simp only [intOf]; first | omega | (go_num; omega) | go_num
      · have hr := endR_none HQ.out (endN_out l j n (by omega))
        have HR := Lib.hid hr
        clear hr
        go_wp2_with fail
        go_ret
        exact ⟨ret_int (by rw [HR.out]), Below.refl _ _⟩
end Go.Proofs.Ytgmkokophcmbnaa
