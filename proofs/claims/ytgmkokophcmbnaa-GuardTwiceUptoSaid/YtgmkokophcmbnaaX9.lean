import Derived.Test.YtgmkokophcmbnaaV9
import Derived.Test.YtgmkokophcmbnaaX8
namespace Go.Proofs.Ytgmkokophcmbnaa
open Go.RowKit

/-- a row of marks -/
def bls (B : Nat → Bool) (n : Nat) : List Value := (List.range n).map fun j => Value.bool (B j)
theorem bls_at (B : Nat → Bool) (n j : Nat) (h : j < n) : (bls B n)[j]? = some (.bool (B j)) := by simp [bls, h]
theorem bls_set (B : Nat → Bool) (n s : Nat) (x : Bool) : (bls B n).set s (.bool x) = bls (fset B s x) n := by
  apply List.ext_getElem?
  intro j
  by_cases hj : j < n
  · rw [bls_at _ _ _ hj, List.getElem?_set, bls_at _ _ _ hj]
    by_cases h : s = j
    · subst h; simp [fset, bls, hj]
    · simp [fset, h, Ne.symm h]
  · rw [List.getElem?_eq_none (by simp [bls]; omega), List.getElem?_eq_none (by simp [bls]; omega)]
theorem made_bls (n : Nat) : (madeCells (Value.bool false).cells (n * 1)).toList = bls (fun _ => false) n := by
  rw [show (Value.bool false).cells = #[Value.bool false] from rfl, toList_madeCells_one]
  apply List.ext_getElem?
  intro j
  by_cases hj : j < n
  · rw [bls_at _ _ _ hj]; simp [hj]
  · rw [List.getElem?_eq_none (by simp; omega), List.getElem?_eq_none (by simp [bls]; omega)]
theorem Try.info4 : (Try.prog.info? 4).map (fun i => (i.zero, i.size, i.bytes)) = some (some (.bool false), 1, 1) := by kernel_rfl
/-- two rows side by side -/
structure Two (base : Nat) (vo vn : Value) (outs : List Pt) (nums : List Int) (w : World) : Prop where
  own : w.ownsRow base 23 3 vo outs.length (pcells outs)
  onn : w.ownsRow base 3 1 vn nums.length (zvs nums)
  sep : ∀ g, vo.ownBlock = some g → vn.ownBlock ≠ some g
theorem Two.later {base : Nat} {vo vn : Value} {outs : List Pt} {nums : List Int} {w w' : World} (h : Two base vo vn outs nums w) (hb : Below w.heap.size w w') : Two base vo vn outs nums w' :=
  ⟨ownsRow_below h.own hb, ownsRow_below h.onn hb, h.sep⟩
theorem Two.outed {base : Nat} {vo vn vo' : Value} {outs : List Pt} {nums : List Int} {w w' : World} {p : Pt} (h : Two base vo vn outs nums w)
    (hown : w'.ownsRow base 23 3 vo' (outs.length + 1) (pcells outs ++ p.cells)) (hgrow : w.grownBy w' vo.ownBlock) (hat : vo'.ownBlock = vo.ownBlock ∨ vo'.ownBlock = some w.heap.size) :
    Two base vo' vn (outs ++ [p]) nums w' := by
  refine ⟨?_, h.onn.kept hgrow ?_, fun g hg => ?_⟩
  · rw [List.length_append, show pcells (outs ++ [p]) = pcells outs ++ p.cells from by simp [pcells]]; exact hown
  · cases hv : vn.ownBlock with
    | none => exact .inl rfl
    | some k => right; intro e; exact h.sep k e.symm hv
  · rcases hat with e | e
    · exact h.sep g (e ▸ hg)
    · intro hn
      rw [e] at hg
      cases hg
      have := (h.onn.lt _ hn).2; omega
theorem Two.numbered {base : Nat} {vo vn vn' : Value} {outs : List Pt} {nums : List Int} {w w' : World} {x : Int} (h : Two base vo vn outs nums w)
    (hown : w'.ownsRow base 3 1 vn' (nums.length + 1) (zvs nums ++ [.int .i64 x])) (hgrow : w.grownBy w' vn.ownBlock) (hat : vn'.ownBlock = vn.ownBlock ∨ vn'.ownBlock = some w.heap.size) :
    Two base vo vn' outs (nums ++ [x]) w' := by
  refine ⟨h.own.kept hgrow ?_, ?_, fun g hg e => ?_⟩
  · cases hv : vo.ownBlock with
    | none => exact .inl rfl
    | some k => right; intro e; exact h.sep k hv e.symm
  · rw [List.length_append, show zvs (nums ++ [x]) = zvs nums ++ [.int .i64 x] from by simp [zvs]]; exact hown
  · rcases hat with a | a
    · exact h.sep g hg (a ▸ e)
    · rw [a] at e
      cases e
      have := (h.own.lt _ hg).2; omega
/-- the row of marks lies in block N -/
def Marks (N n : Nat) (B : Nat → Bool) (w : World) : Prop := w.ownsRow N 4 1 (.slice (some ⟨N, 0, none⟩) n n) n (bls B n)
theorem Marks.later {N n : Nat} {B : Nat → Bool} {w w' : World} (h : Marks N n B w) (hb : Below w.heap.size w w') : Marks N n B w' := ownsRow_below h hb
theorem Marks.grown {N n : Nat} {B : Nat → Bool} {w w' : World} {g : Option Nat} (h : Marks N n B w) (hg : w.grownBy w' g) (hn : g ≠ some N) : Marks N n B w' :=
  World.ownsRow.kept h hg (by right; simp [Value.ownBlock]; exact fun e => hn e.symm)
theorem Marks.cell {N n : Nat} {B : Nat → Bool} {w : World} (h : Marks N n B w) (j : Nat) (hj : j < n) : w.cell? ⟨N, j, none⟩ = some (.bool (B j)) := by
  rw [World.ownsRow.cellAt h j (by omega), bls_at _ _ _ hj]
theorem Marks.free {N n : Nat} {B : Nat → Bool} {w : World} (h : Marks N n B w) (j : Nat) : w.frozen? ⟨N, j, none⟩ = false := World.ownsRow.frozenAt h j
theorem Marks.lt {N n : Nat} {B : Nat → Bool} {w : World} (h : Marks N n B w) : N < w.heap.size := (World.ownsRow.lt h N rfl).2
theorem Marks.set {N n : Nat} {B : Nat → Bool} {w : World} (h : Marks N n B w) (j : Nat) (x : Bool) :
    Marks N n (fset B j x) (w.setCell ⟨N, j, none⟩ (.bool x)) ∧ w.grownBy (w.setCell ⟨N, j, none⟩ (.bool x)) (some N) := by
  have := World.ownsRow.stored h j (.bool x)
  rw [bls_set] at this
  exact this
theorem mem_at {i : Nat} {l : List Pt} {q : Pt} {t : List Pt} (hd : l.drop i = q :: t) : l[i]? = some q ∧ i < l.length ∧ l.drop (i + 1) = t := by
  have hlq : l[i]? = some q := by
    have h0 : (l.drop i)[0]? = some q := by rw [hd]; rfl
    simpa using h0
  refine ⟨hlq, ?_, ?_⟩
  · rcases Nat.lt_or_ge i l.length with h | h
    · exact h
    · rw [List.getElem?_eq_none h] at hlq; cases hlq
  · have : l.drop (i + 1) = (l.drop i).drop 1 := by rw [List.drop_drop]
    rw [this, hd]; rfl
theorem setFar {w : World} {N j : Nat} {x : Value} {a : Addr} {v : Value} (h : a.block ≠ N) (hc : w.cell? a = some v) : (w.setCell ⟨N, j, none⟩ x).cell? a = some v := by
  have hb : (w.setCell ⟨N, j, none⟩ x).heap[a.block]? = w.heap[a.block]? := Below.heap_setCell _ _ _ _ h
  rw [← hc]; exact World.cell?_of_block hb
/-- ahead of a round over the parts -/
def With1 (w0 : World) (N : Nat) (l : List Pt) (F : Nat → Bool) (w' : World) (u8 : Value) : Prop :=
  ∃ (f : Fo) (i : Nat) (B : Nat → Bool), u8 = .int .i64 (i : Int) ∧ f.good ∧ l.drop i = f.flat ∧ run f i B = F ∧ Marks N l.length B w' ∧ Below w0.heap.size w0 w'
/-- ahead of a round over the kids -/
def With2 (w0 : World) (N : Nat) (l : List Pt) (q : Pt) (k : Fo) (i : Nat) (rest : List Pt) (B1 : Nat → Bool) (kb : Nat) (vk : Value) (w' : World) (u10 : Value) : Prop :=
  ∃ (g : Fo) (s : Nat) (B : Nat → Bool) (d : List Nat), u10 = .int .i64 (d.length : Int) ∧ g.good ∧ starts k (i + 1) = d ++ starts g s ∧ l.drop s = g.flat ++ rest ∧ upd q g s d.length B = B1 ∧
    Marks N l.length B w' ∧ w'.ownsRow kb 3 1 vk (starts k (i + 1)).length (ivs (starts k (i + 1))) ∧ Below w0.heap.size w0 w'
/-- ahead of a round that puts out -/
def With3 (w0 : World) (N : Nat) (l : List Pt) (fr : List Int) (F : Nat → Bool) (tot : List (Pt × Option Nat)) (w' : World) (u11 u12 u13 : Value) : Prop :=
  ∃ (i : Nat) (done : List (Pt × Option Nat)), u13 = .int .i64 (i : Int) ∧ i ≤ l.length ∧ done ++ outG F (l.drop i) i = tot ∧ done.length ≤ 2 * i ∧ Two (N + 1) u11 u12 (ptsOf done) (numsOf fr done) w' ∧
    Marks N l.length F w' ∧ Below w0.heap.size w0 w'
end Go.Proofs.Ytgmkokophcmbnaa
