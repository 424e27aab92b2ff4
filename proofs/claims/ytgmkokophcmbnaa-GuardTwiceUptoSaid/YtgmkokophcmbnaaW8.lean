import Derived.Test.YtgmkokophcmbnaaW7
namespace Go.Proofs.Ytgmkokophcmbnaa
open Go.RowKit

theorem put_all (c b off lcap fb foff fcap : Nat) (m : Int) (l : List Pt) (fr : List Int) (hl : l.length ≤ 1099511627776) (hw : ∀ q ∈ l, q.w.length ≤ 1125899906842624) :
    ∀ n, PutOK c b off lcap fb foff fcap m l fr n := by
  intro n
  induction n with
  | zero => intro k q i rest outs nums vo vn w h; omega
  | succ n ih =>
    intro k q i rest outs nums vo vn w hs hk hg hd ho hno hC hL
    have hlq : l[i]? = some q := by
      have h0 : (l.drop i)[0]? = some q := by rw [hd]; rfl
      simpa using h0
    have hil : i < l.length := by
      rcases Nat.lt_or_ge i l.length with h | h
      · exact h
      · rw [List.getElem?_eq_none h] at hlq; cases hlq
    have hf : fr[i]? = some (fr.getD i 0) := by
      rw [List.getD_eq_getElem?_getD, List.getElem?_eq_getElem (by rw [hL.len]; exact hil)]; rfl
    refine put_gen c b off lcap fb foff fcap m l fr vo vn i outs _ nums _ _ q (fr.getD i 0) w hl (by omega) (by omega) hil hlq hf hC hL ?_
    intro vo1 vn1 w1 hC1 hL1
    have he := each_gen c b off lcap fb foff fcap m l fr vo1 vn1 (i + 1) rest (outs ++ [q]) (nums ++ [fr.getD i 0]) q k w1 hl hw (hw q (List.mem_of_getElem? hlq)) hk hg
      (by have : l.drop (i + 1) = (l.drop i).drop 1 := by rw [List.drop_drop]
          rw [this, hd]; rfl) (by simp; omega) (by simp [hno]) (by simpa using hC1) hL1 (fun k' q' i' r' o' n' a b' w' hs' => ih k' q' i' r' o' n' a b' w' (by omega))
    have a1 : outs ++ [q] ++ ptsOf (gl k q 0 (i + 1)) = outs ++ ptsOf ((q, some i) :: gl k q 0 (i + 1)) := by simp [ptsOf]
    have a2 : nums ++ [fr.getD i 0] ++ numsOf fr (gl k q 0 (i + 1)) = nums ++ numsOf fr ((q, some i) :: gl k q 0 (i + 1)) := by simp [numsOf, numOf]
    rw [a1, a2] at he
    exact he
end Go.Proofs.Ytgmkokophcmbnaa
