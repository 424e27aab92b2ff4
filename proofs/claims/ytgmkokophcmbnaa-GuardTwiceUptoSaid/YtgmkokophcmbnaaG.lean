import Derived.Test.YtgmkokophcmbnaaF
import Derived.Test.YtgmkokophcmbnaaW4
import Derived.Deep.Slices
import Derived.Deep.Fields
import Derived.ChangeSame
import Derived.Carry
namespace Go.Proofs.Ytgmkokophcmbnaa
open Go.ChangeShapes Go.WideShapes Go.ChangeAt Go.RowKit Go.WideMaps Go.Joins Go.Deep

section
variable {H : Type} {enc : TypeId × Value → H} {P : Program} {w : World} {base : Nat} {spare : Nat → Bool} {held : Bool}
theorem open_slice_fields {t e : TypeId} {fs : Array Field} {fuel : Nat} {cs : List Value} {x : DataW H × List MemPlace} (ht : P.underlying t = some (.slice e)) (he : P.underlying e = some (.struct fs))
    (hone : oneCellFields P fs = true) (hC : P.cellsOf e = fs.size) (h : DataW.trod enc P w base spare held fuel t cs = some x) :
    (cs = [.slice none 0 0] ∧ x = (.nil, [])) ∨
    ∃ (a : Addr) (len cap m : Nat) (D : Nat → DataW H) (Pl : Nat → List MemPlace), cs = [.slice (some a) len cap] ∧ base ≤ a.block ∧ len ≤ cap ∧ cap ≤ maxLen ∧ m = (if spare a.block then cap else len) ∧
      x = (.slice ((List.range len).map D) ((List.range (m - len)).map fun j => D (len + j)), MemPlace.row a (m * fs.size) ++ (List.range m).flatMap Pl) ∧
      ∀ i, i < m → ∃ (ys : List (DataW H × List MemPlace)) (n : Nat), D i = .agg (ys.map (·.1)) ∧ Pl i = ys.flatMap (·.2) ∧ ys.length = fs.size ∧
        ∀ (j : Nat) (f : Field), fs[j]? = some f → ∃ (v : Value) (y : DataW H × List MemPlace), w.cell? (a.add (i * fs.size + j)) = some v ∧ ys[j]? = some y ∧ DataW.trod enc P w base spare held n f.type [v] = some y := by
  rcases open_slice ht h with h0 | ⟨a, len, cap, m, n, D, Pl, hcs, hb, hl, hm, hmm, hx, hi⟩
  · exact .inl h0
  · refine .inr ⟨a, len, cap, m, D, Pl, hcs, hb, hl, hm, hmm, by rw [hC] at hx; exact hx, fun i him => ?_⟩
    obtain ⟨cs', hc, ht'⟩ := hi i him
    rw [hC] at hc
    obtain ⟨ys, n', hn', hy, hlen, hyl, hf⟩ := DataW.trod_struct he ht'
    obtain ⟨_, hcl, hat⟩ := World.cells?_some hc
    simp only [Prod.mk.injEq] at hy
    refine ⟨ys, n', hy.1, hy.2, hyl, fun j f hj => ?_⟩
    obtain ⟨ho, hk⟩ := hone_of hone j f hj
    have hjl : j < fs.size := (Array.getElem?_eq_some_iff.1 hj).1
    have hcell := hat j hjl
    have hv : cs'[j]? = some (cs'[j]'(by omega)) := List.getElem?_eq_getElem (by omega)
    have h1 := hf j f hj
    rw [ho, hk] at h1
    have hone' : (cs'.drop j).take 1 = [cs'[j]'(by omega)] := by
      rw [List.drop_eq_getElem_cons (by omega)]
      rfl
    rw [hone'] at h1
    have hys : ys[j]? = some (ys[j]'(by omega)) := List.getElem?_eq_getElem (by omega)
    refine ⟨_, _, ?_, hys, h1.trans hys⟩
    rw [← Go.Deep.add_add, hcell, hv]
end

section
variable {H : Type} {enc : TypeId × Value → H} {W : World} {sp : Nat → Bool} {held : Bool}
/-- a part as data -/
def ptD (H : Type) (p : Pt) : DataW H := .agg [.lit (.int .u8 p.k.toNat), .lit (.int .i64 p.n), .lit (.string p.w)]
theorem list_of {α : Type} (P : Nat → α → Prop) : ∀ n : Nat, (∀ i, i < n → ∃ p, P i p) → ∃ l : List α, l.length = n ∧ ∀ i p, l[i]? = some p → P i p
  | 0, _ => ⟨[], rfl, fun i p h => by simp at h⟩
  | n + 1, h => by
    obtain ⟨l, hl, hp⟩ := list_of P n (fun i hi => h i (by omega))
    obtain ⟨q, hq⟩ := h n (by omega)
    refine ⟨l ++ [q], by simp [hl], fun i p hi => ?_⟩
    by_cases hin : i < l.length
    · rw [List.getElem?_append_left hin] at hi; exact hp i p hi
    · rw [List.getElem?_append_right (by omega)] at hi
      have : i - l.length = 0 := by
        rcases Nat.eq_zero_or_pos (i - l.length) with e | e
        · exact e
        · rw [List.getElem?_eq_none (by simp; omega)] at hi; cases hi
      rw [this] at hi
      simp only [List.getElem?_cons_zero, Option.some.injEq] at hi
      subst hi
      have : i = n := by omega
      subst this; exact hq
/-- a slice of parts that came in lies in memory, to be read -/
theorem open_parts {r : Reach} {b0 : Nat} {v : Value} {d : DataW H} {p : List MemPlace} (hv : Value.okWide Try.prog W r b0 27 v) (h : DataW.Trod enc Try.prog W 0 sp held 27 v d p) :
    ∃ (a : Option Addr) (l : List Pt) (cap : Nat), v = .slice a l.length cap ∧ PartsAt W a l ∧ (l ≠ [] → ∃ s, d = .slice (l.map (ptD H)) s) := by
  obtain ⟨a, len, cap, rfl⟩ := okWide_slice Try.underlying27 hv
  obtain ⟨fuel, hf⟩ := h
  rcases open_slice_fields Try.underlying27 Try.underlying23 (by kernel_rfl) (by kernel_rfl) hf with ⟨hcs, _⟩ | ⟨a', len', cap', m, D, Pl, hcs, _, hl, _, hm, hx, hi⟩
  · simp [Value.cells] at hcs
    obtain ⟨rfl, rfl, rfl⟩ := hcs
    exact ⟨none, [], 0, rfl, .inl rfl, fun h => absurd rfl h⟩
  · simp [Value.cells] at hcs
    obtain ⟨rfl, rfl, rfl⟩ := hcs
    have hml : len ≤ m := by rw [hm]; split <;> omega
    obtain ⟨l, hll, hlp⟩ := list_of (fun i (q : Pt) => W.cell? (a'.add (i * 3)) = some (.int .u8 (q.k.toNat : Int)) ∧ W.cell? (a'.add (i * 3 + 1)) = some (.int .i64 q.n) ∧ W.cell? (a'.add (i * 3 + 2)) = some (.string ⟨q.w.toArray⟩) ∧ D i = ptD H q) len (fun i hil => by
      obtain ⟨ys, n, hD, _, hyl, hff⟩ := hi i (by omega)
      obtain ⟨v0, y0, c0, e0, t0⟩ := hff 0 _ rfl
      obtain ⟨v1, y1, c1, e1, t1⟩ := hff 1 _ rfl
      obtain ⟨v2, y2, c2, e2, t2⟩ := hff 2 _ rfl
      obtain ⟨k, hk, rfl, wk⟩ := DataW.trod_int Try.underlying5 t0
      obtain ⟨nn, hn, rfl, _⟩ := DataW.trod_int Try.underlying3 t1
      obtain ⟨s, hs, rfl, _⟩ := DataW.trod_string Try.underlying9 t2
      simp only [List.cons.injEq, and_true] at hk hn hs
      subst hk hn hs
      obtain ⟨⟨w⟩⟩ := s
      have hkr : 0 ≤ k ∧ k < 256 := by
        have h1 : IntKind.u8.min = 0 := rfl
        have h2 : IntKind.u8.max = 255 := rfl
        simp only [Lit.wf, Bool.and_eq_true, decide_eq_true_eq] at wk
        omega
      obtain ⟨kn, rfl⟩ := Int.eq_ofNat_of_zero_le hkr.1
      have hkn : ((UInt8.ofNat kn).toNat : Int) = (kn : Int) := by rw [UInt8.toNat_ofNat', Nat.mod_eq_of_lt (by omega)]
      refine ⟨⟨UInt8.ofNat kn, nn, w⟩, by rw [hkn]; exact c0, c1, c2, ?_⟩
      rw [hD]
      have hyl : ys.length = 3 := hyl
      match ys, hyl, e0, e1, e2 with
      | [x0, x1, x2], _, e0, e1, e2 =>
        simp only [List.getElem?_cons_zero, List.getElem?_cons_succ, Option.some.injEq] at e0 e1 e2
        subst e0 e1 e2
        simp only [ptD, hkn, List.map_cons, List.map_nil])
    subst hll
    refine ⟨some a', l, cap, rfl, ?_, fun _ => ⟨(List.range (m - l.length)).map fun j => D (l.length + j), ?_⟩⟩
    · by_cases h0 : l = []
      · exact .inl h0
      · have hpos : 0 < l.length := by
          rcases l with _ | _
          · exact absurd rfl h0
          · simp
        obtain ⟨c0, _, _, _⟩ := hlp 0 l[0] (List.getElem?_eq_getElem hpos)
        have ha : a'.add (0 * 3) = a' := by simp [Addr.add]
        rw [ha] at c0
        obtain ⟨b, o, spt⟩ := a'
        have hs : spt = none := by
          cases spt with
          | none => rfl
          | some x =>
            simp only [World.cell?] at c0
            split at c0 <;> simp at c0
        subst hs
        refine .inr ⟨b, o, rfl, World.block_lt_of_cell? W _ c0, fun j q hj => ?_⟩
        obtain ⟨g0, g1, g2, _⟩ := hlp j q hj
        have had : ∀ n, (Addr.mk b o none).add n = ⟨b, o + n, none⟩ := fun n => by
          unfold Addr.add
          split
          · rename_i h; subst h; rfl
          · rfl
        rw [had] at g0 g1 g2
        exact ⟨g0, by rw [Nat.add_assoc]; exact g1, by rw [Nat.add_assoc]; exact g2⟩
    · have hx1 : d = _ := congrArg Prod.fst hx
      rw [hx1]
      have : (List.range l.length).map D = l.map (ptD H) := by
        apply List.ext_getElem?
        intro j
        by_cases hj : j < l.length
        · obtain ⟨_, _, _, g⟩ := hlp j l[j] (List.getElem?_eq_getElem hj)
          simp [hj, g]
        · rw [List.getElem?_eq_none (by simp; omega), List.getElem?_eq_none (by simp; omega)]
      simp only [this]
/-- a slice of numbers that came in lies in memory, to be read -/
theorem open_nums {r : Reach} {b0 : Nat} {v : Value} {d : DataW H} {p : List MemPlace} (hv : Value.okWide Try.prog W r b0 28 v) (h : DataW.Trod enc Try.prog W 0 sp held 28 v d p) :
    ∃ (a : Option Addr) (l : List Int) (cap : Nat), v = .slice a l.length cap ∧ IntsAt W a l := by
  obtain ⟨a, len, cap, rfl⟩ := okWide_slice Try.underlying28 hv
  obtain ⟨fuel, hf⟩ := h
  rcases open_slice1 Try.underlying28 (by kernel_rfl) hf with ⟨hcs, _⟩ | ⟨a', len', cap', m, n, V, D, Pl, hcs, _, hl, _, hm, hx, hi⟩
  · simp [Value.cells] at hcs
    obtain ⟨rfl, rfl, rfl⟩ := hcs
    exact ⟨none, [], 0, rfl, .inl rfl⟩
  · simp [Value.cells] at hcs
    obtain ⟨rfl, rfl, rfl⟩ := hcs
    have hml : len ≤ m := by rw [hm]; split <;> omega
    obtain ⟨l, hll, hlp⟩ := list_of (fun i (q : Int) => W.cell? (a'.add i) = some (.int .i64 q)) len (fun i hil => by
      obtain ⟨c0, t0⟩ := hi i (by omega)
      obtain ⟨k, hk, _, _⟩ := DataW.trod_int Try.underlying3 t0
      simp only [List.cons.injEq, and_true] at hk
      exact ⟨k, by rw [c0, hk]⟩)
    subst hll
    refine ⟨some a', l, cap, rfl, ?_⟩
    by_cases h0 : l = []
    · exact .inl h0
    · have hpos : 0 < l.length := by
        rcases l with _ | _
        · exact absurd rfl h0
        · simp
      have c0 := hlp 0 l[0] (List.getElem?_eq_getElem hpos)
      have ha : a'.add 0 = a' := by simp [Addr.add]
      rw [ha] at c0
      obtain ⟨b, o, spt⟩ := a'
      have hs : spt = none := by
        cases spt with
        | none => rfl
        | some x =>
          simp only [World.cell?] at c0
          split at c0 <;> simp at c0
      subst hs
      refine .inr ⟨b, o, rfl, World.block_lt_of_cell? W _ c0, fun j q hj => ?_⟩
      have g0 := hlp j q hj
      have had : ∀ n, (Addr.mk b o none).add n = ⟨b, o + n, none⟩ := fun n => by
        unfold Addr.add
        split
        · rename_i h; subst h; rfl
        · rfl
      rw [had] at g0
      exact g0
theorem weightsAll_mem {P : Program} {e : TypeId} : ∀ {ds : List (DataW H)} {d : DataW H}, d ∈ ds → ∀ n ∈ d.weights P e, n ∈ DataW.weightsAll P e ds
  | d0 :: ds, d, hd, n, hn => by
    simp only [DataW.weightsAll, List.mem_append]
    rcases List.mem_cons.1 hd with e | e
    · subst e; exact Or.inl hn
    · exact Or.inr (weightsAll_mem e n hn)
/-- the words of a slice that came in are no longer than any memory -/
theorem words_reach {ts : List TypeId} {ds : List (DataW H)} {j : Nat} {l : List Pt} {d : DataW H} (hsz : (DataW.weightsEach Try.prog ts ds).all (· ≤ reachBytes) = true) (ht : ts[j]? = some 27) (hd : ds[j]? = some d)
    (hl : l ≠ [] → ∃ s, d = .slice (l.map (ptD H)) s) : ∀ q ∈ l, q.w.length ≤ 1125899906842624 := by
  intro q hq
  have hl0 : l ≠ [] := fun e => by rw [e] at hq; cases hq
  obtain ⟨s, rfl⟩ := hl hl0
  have hm : q.w.length ∈ (DataW.slice (l.map (ptD H)) s).weights Try.prog 27 := by
    simp only [DataW.weights, Try.underlying27, List.mem_cons, List.mem_append]
    refine Or.inr (Or.inl (weightsAll_mem (List.mem_map_of_mem hq) _ ?_))
    simp [ptD, DataW.weights, Try.underlying23, DataW.weightsEach]
  have h1 := List.all_eq_true.1 hsz _ (DataW.weights_mem_each (P := Try.prog) ht hd _ hm)
  have h2 : reachBytes = 140737488351232 := rfl
  simp only [h2, decide_eq_true_eq] at h1
  omega
end
end Go.Proofs.Ytgmkokophcmbnaa
