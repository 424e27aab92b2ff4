import Derived.Test.YtgmkokophcmbnaaW4
import Derived.Deep.RegionHeld3
import Derived.Deep.AppendLies
import Derived.Deep.RegionLaw
namespace Go.Proofs.Ytgmkokophcmbnaa
open Go.RowKit

def pcells (l : List Pt) : List Value := l.flatMap Pt.cells
def zvs (l : List Int) : List Value := l.map fun (n : Int) => Value.int .i64 n
/-- the copier at work -/
structure Cop (c : Nat) (LV FV vo vn : Value) (at' : Int) (outs : List Pt) (nums : List Int) (w : World) : Prop where
  blk : w.heap[c]? = some (.cells #[LV, FV, vo, vn, .int .i64 at'] 43 (0, 0))
  own : w.ownsRow (c + 1) 23 3 vo outs.length (pcells outs)
  onn : w.ownsRow (c + 1) 3 1 vn nums.length (zvs nums)
  sep : ∀ g, vo.ownBlock = some g → vn.ownBlock ≠ some g
theorem Cop.cell {c : Nat} {LV FV vo vn : Value} {at' : Int} {outs : List Pt} {nums : List Int} {w : World} (h : Cop c LV FV vo vn at' outs nums w) :
    w.cell? ⟨c, 0, none⟩ = some LV ∧ w.cell? ⟨c, 1, none⟩ = some FV ∧ w.cell? ⟨c, 2, none⟩ = some vo ∧ w.cell? ⟨c, 3, none⟩ = some vn ∧ w.cell? ⟨c, 4, none⟩ = some (.int .i64 at') ∧ c < w.heap.size := by
  have hb := h.blk
  refine ⟨?_, ?_, ?_, ?_, ?_, lt_of_block hb⟩ <;> simp [World.cell?, hb]
theorem Cop.free {c : Nat} {LV FV vo vn : Value} {at' : Int} {outs : List Pt} {nums : List Int} {w : World} (h : Cop c LV FV vo vn at' outs nums w) (i : Nat) : w.frozen? ⟨c, i, none⟩ = false := by
  have hb := h.blk
  simp [World.frozen?, hb]

/-- what put and each leave of the world -/
structure Trans (c : Nat) (vo vn : Value) (w : World) (vo' vn' : Value) (w' : World) : Prop where
  os : w'.os = w.os
  tape : w'.tape = w.tape
  output : w'.output = w.output
  size : w.heap.size ≤ w'.heap.size
  block : ∀ k, k < w.heap.size → k ≠ c → vo.ownBlock ≠ some k → vn.ownBlock ≠ some k → w'.heap[k]? = w.heap[k]?
  bo : ∀ k, vo'.ownBlock = some k → vo.ownBlock = some k ∨ w.heap.size ≤ k
  bn : ∀ k, vn'.ownBlock = some k → vn.ownBlock = some k ∨ w.heap.size ≤ k
theorem Trans.below {c : Nat} {vo vn : Value} {w w' : World} (h : Below w.heap.size w w') : Trans c vo vn w vo vn w' :=
  ⟨h.os, h.tape, h.output, h.size, fun k hk _ _ _ => h.block k hk, fun _ h => .inl h, fun _ h => .inl h⟩
theorem Trans.trans {c : Nat} {vo vn vo1 vn1 vo2 vn2 : Value} {w w1 w2 : World} (h : Trans c vo vn w vo1 vn1 w1) (k : Trans c vo1 vn1 w1 vo2 vn2 w2) : Trans c vo vn w vo2 vn2 w2 := by
  refine ⟨k.os.trans h.os, k.tape.trans h.tape, k.output.trans h.output, Nat.le_trans h.size k.size, fun i hi h1 h2 h3 => ?_, fun i hi => ?_, fun i hi => ?_⟩
  · rw [k.block i (Nat.lt_of_lt_of_le hi h.size) h1 ?_ ?_, h.block i hi h1 h2 h3]
    · intro e; rcases h.bo i e with e | e
      · exact h2 e
      · omega
    · intro e; rcases h.bn i e with e | e
      · exact h3 e
      · omega
  · rcases k.bo i hi with e | e
    · exact h.bo i e
    · exact .inr (Nat.le_trans h.size e)
  · rcases k.bn i hi with e | e
    · exact h.bn i e
    · exact .inr (Nat.le_trans h.size e)
theorem ownsRow_below {w w' : World} {base : Nat} {e : TypeId} {size : Nat} {v : Value} {n : Nat} {xs : List Value} (h : w.ownsRow base e size v n xs) (hb : Below w.heap.size w w') : w'.ownsRow base e size v n xs :=
  h.kept (row := none) ⟨hb.os, hb.tape, hb.output, hb.size, fun k hk _ => hb.block k hk⟩ (by
    cases hv : v.ownBlock with
    | none => exact .inl rfl
    | some g => exact .inr (by simp))
theorem Cop.later {c : Nat} {LV FV vo vn : Value} {at' : Int} {outs : List Pt} {nums : List Int} {w w' : World} (h : Cop c LV FV vo vn at' outs nums w) (hb : Below w.heap.size w w') : Cop c LV FV vo vn at' outs nums w' :=
  ⟨by rw [hb.block c (lt_of_block h.blk)]; exact h.blk, ownsRow_below h.own hb, ownsRow_below h.onn hb, h.sep⟩
theorem Try.info23 : (Try.prog.info? 23).map (fun i => (i.zero, i.size, i.bytes)) = some (some (.agg #[.int .u8 0, .int .i64 0, .string ByteArray.empty]), 3, 32) := by kernel_rfl
/-- behind an append to out: the copier with its field set -/
theorem Cop.outed {c : Nat} {LV FV vo vn : Value} {at' : Int} {outs : List Pt} {nums : List Int} {w w1 : World} {p : Pt} {g cap : Nat}
    (h : Cop c LV FV vo vn at' outs nums w) (hown : w1.ownsRow (c + 1) 23 3 (.slice (some ⟨g, 0, none⟩) (outs.length + 1) cap) (outs.length + 1) (pcells outs ++ p.cells))
    (hgrow : w.grownBy w1 vo.ownBlock) (hat : vo.ownBlock = some g ∨ w.heap.size ≤ g) :
    Cop c LV FV (.slice (some ⟨g, 0, none⟩) (outs.length + 1) cap) vn at' (outs ++ [p]) nums (w1.setCell ⟨c, 2, none⟩ (.slice (some ⟨g, 0, none⟩) (outs.length + 1) cap)) ∧
    Trans c vo vn w (.slice (some ⟨g, 0, none⟩) (outs.length + 1) cap) vn (w1.setCell ⟨c, 2, none⟩ (.slice (some ⟨g, 0, none⟩) (outs.length + 1) cap)) := by
  have hc := lt_of_block h.blk
  have hoc : ∀ k, vo.ownBlock = some k → c + 1 ≤ k ∧ k < w.heap.size := h.own.lt
  have hnc : ∀ k, vn.ownBlock = some k → c + 1 ≤ k ∧ k < w.heap.size := h.onn.lt
  have hgc := (hown.lt g rfl).1
  have hblk1 : w1.heap[c]? = w.heap[c]? := hgrow.block c hc (fun e => by have := (hoc c e.symm).1; omega)
  have hset : w1.grownBy (w1.setCell ⟨c, 2, none⟩ (.slice (some ⟨g, 0, none⟩) (outs.length + 1) cap)) (some c) :=
    ⟨rfl, rfl, rfl, by simp, fun k _ hk => Below.heap_setCell _ _ _ _ (fun e => hk (by rw [e]))⟩
  refine ⟨⟨?_, ?_, ?_, ?_⟩, ?_⟩
  · have := heap_setCell_same w1 c 2 #[LV, FV, vo, vn, .int .i64 at'] 43 (.slice (some ⟨g, 0, none⟩) (outs.length + 1) cap) (by rw [hblk1]; exact h.blk)
    rw [this]; rfl
  · have e1 : pcells (outs ++ [p]) = pcells outs ++ p.cells := by simp [pcells]
    rw [List.length_append, e1]
    exact hown.kept hset (by right; simp [Value.ownBlock]; omega)
  · refine (h.onn.kept hgrow ?_).kept hset ?_
    · cases hv : vn.ownBlock with
      | none => exact .inl rfl
      | some k => right; intro e; exact h.sep k e.symm hv
    · cases hv : vn.ownBlock with
      | none => exact .inl rfl
      | some k => right; have := (hnc k hv).1; simp; omega
  · intro k hk e
    simp only [Value.ownBlock, Option.some.injEq] at hk
    subst hk
    rcases hat with hat | hat
    · exact h.sep g hat e
    · have := (hnc g e).2; omega
  · refine ⟨hset.os.trans hgrow.os, hset.tape.trans hgrow.tape, hset.output.trans hgrow.output, Nat.le_trans hgrow.size hset.size, fun k hk h1 h2 h3 => ?_, fun k hk => ?_, fun k hk => .inl hk⟩
    · rw [hset.block k (Nat.lt_of_lt_of_le hk hgrow.size) (by simpa using h1), hgrow.block k hk (fun e => h2 e.symm)]
    · simp only [Value.ownBlock, Option.some.injEq] at hk
      subst hk; exact hat

/-- behind an append to nums: the copier with its field set -/
theorem Cop.numbered {c : Nat} {LV FV vo vn : Value} {at' : Int} {outs : List Pt} {nums : List Int} {w w1 : World} {x : Int} {g cap : Nat}
    (h : Cop c LV FV vo vn at' outs nums w) (hown : w1.ownsRow (c + 1) 3 1 (.slice (some ⟨g, 0, none⟩) (nums.length + 1) cap) (nums.length + 1) (zvs nums ++ [.int .i64 x]))
    (hgrow : w.grownBy w1 vn.ownBlock) (hat : vn.ownBlock = some g ∨ w.heap.size ≤ g) :
    Cop c LV FV vo (.slice (some ⟨g, 0, none⟩) (nums.length + 1) cap) at' outs (nums ++ [x]) (w1.setCell ⟨c, 3, none⟩ (.slice (some ⟨g, 0, none⟩) (nums.length + 1) cap)) ∧
    Trans c vo vn w vo (.slice (some ⟨g, 0, none⟩) (nums.length + 1) cap) (w1.setCell ⟨c, 3, none⟩ (.slice (some ⟨g, 0, none⟩) (nums.length + 1) cap)) := by
  have hc := lt_of_block h.blk
  have hoc : ∀ k, vo.ownBlock = some k → c + 1 ≤ k ∧ k < w.heap.size := h.own.lt
  have hnc : ∀ k, vn.ownBlock = some k → c + 1 ≤ k ∧ k < w.heap.size := h.onn.lt
  have hgc := (hown.lt g rfl).1
  have hblk1 : w1.heap[c]? = w.heap[c]? := hgrow.block c hc (fun e => by have := (hnc c e.symm).1; omega)
  have hset : w1.grownBy (w1.setCell ⟨c, 3, none⟩ (.slice (some ⟨g, 0, none⟩) (nums.length + 1) cap)) (some c) :=
    ⟨rfl, rfl, rfl, by simp, fun k _ hk => Below.heap_setCell _ _ _ _ (fun e => hk (by rw [e]))⟩
  refine ⟨⟨?_, ?_, ?_, ?_⟩, ?_⟩
  · have := heap_setCell_same w1 c 3 #[LV, FV, vo, vn, .int .i64 at'] 43 (.slice (some ⟨g, 0, none⟩) (nums.length + 1) cap) (by rw [hblk1]; exact h.blk)
    rw [this]; rfl
  · refine (h.own.kept hgrow ?_).kept hset ?_
    · cases hv : vo.ownBlock with
      | none => exact .inl rfl
      | some k => right; intro e; exact h.sep k hv e.symm
    · cases hv : vo.ownBlock with
      | none => exact .inl rfl
      | some k => right; have := (hoc k hv).1; simp; omega
  · have e1 : zvs (nums ++ [x]) = zvs nums ++ [.int .i64 x] := by simp [zvs]
    rw [List.length_append, e1]
    exact hown.kept hset (by right; simp [Value.ownBlock]; omega)
  · intro k hk e
    simp only [Value.ownBlock, Option.some.injEq] at e
    subst e
    rcases hat with hat | hat
    · exact h.sep g hk hat
    · have := (hoc g hk).2; omega
  · refine ⟨hset.os.trans hgrow.os, hset.tape.trans hgrow.tape, hset.output.trans hgrow.output, Nat.le_trans hgrow.size hset.size, fun k hk h1 h2 h3 => ?_, fun k hk => .inl hk, fun k hk => ?_⟩
    · rw [hset.block k (Nat.lt_of_lt_of_le hk hgrow.size) (by simpa using h1), hgrow.block k hk (fun e => h3 e.symm)]
    · simp only [Value.ownBlock, Option.some.injEq] at hk
      subst hk; exact hat
/-- the place moved on -/
theorem Cop.moved {c : Nat} {LV FV vo vn : Value} {at' : Int} {outs : List Pt} {nums : List Int} {w : World} (n : Int) (h : Cop c LV FV vo vn at' outs nums w) :
    Cop c LV FV vo vn n outs nums (w.setCell ⟨c, 4, none⟩ (.int .i64 n)) ∧ Trans c vo vn w vo vn (w.setCell ⟨c, 4, none⟩ (.int .i64 n)) := by
  have hset : w.grownBy (w.setCell ⟨c, 4, none⟩ (.int .i64 n)) (some c) :=
    ⟨rfl, rfl, rfl, by simp, fun k _ hk => Below.heap_setCell _ _ _ _ (fun e => hk (by rw [e]))⟩
  refine ⟨⟨?_, h.own.kept hset ?_, h.onn.kept hset ?_, h.sep⟩, ?_⟩
  · have := heap_setCell_same w c 4 #[LV, FV, vo, vn, .int .i64 at'] 43 (.int .i64 n) h.blk
    rw [this]; rfl
  · cases hv : vo.ownBlock with
    | none => exact .inl rfl
    | some k => right; have := (h.own.lt k hv).1; simp; omega
  · cases hv : vn.ownBlock with
    | none => exact .inl rfl
    | some k => right; have := (h.onn.lt k hv).1; simp; omega
  · exact ⟨rfl, rfl, rfl, by simp, fun k hk h1 _ _ => hset.block k hk (by simpa using h1), fun k hk => .inl hk, fun k hk => .inl hk⟩

/-- what the copier reads lies below it -/
structure Lay (c b off fb foff : Nat) (m : Int) (l : List Pt) (fr : List Int) (w : World) : Prop where
  pos : 0 < c
  lb : b < c
  lf : fb < c
  len : fr.length = l.length
  mx : w.cell? ⟨0, 0, none⟩ = some (.int .i64 m)
  parts : ∀ (j : Nat) (p : Pt), l[j]? = some p → w.cell? ⟨b, off + j * 3, none⟩ = some (.int .u8 (p.k.toNat : Int)) ∧ w.cell? ⟨b, off + j * 3 + 1, none⟩ = some (.int .i64 p.n) ∧ w.cell? ⟨b, off + j * 3 + 2, none⟩ = some (.string ⟨p.w.toArray⟩)
  ints : ∀ (j : Nat) (n : Int), fr[j]? = some n → w.cell? ⟨fb, foff + j, none⟩ = some (.int .i64 n)
theorem cell_of_block {w w' : World} {k i : Nat} (h : w'.heap[k]? = w.heap[k]?) : w'.cell? ⟨k, i, none⟩ = w.cell? ⟨k, i, none⟩ := by
  simp [World.cell?, h]
theorem Trans.low {c : Nat} {LV FV vo vn vo' vn' : Value} {at' : Int} {outs : List Pt} {nums : List Int} {w w' : World} (hC : Cop c LV FV vo vn at' outs nums w) (hT : Trans c vo vn w vo' vn' w') {k : Nat} (hk : k < c) :
    w'.heap[k]? = w.heap[k]? := by
  have := lt_of_block hC.blk
  refine hT.block k (by omega) (by omega) (fun e => ?_) (fun e => ?_)
  · have := (hC.own.lt k e).1; omega
  · have := (hC.onn.lt k e).1; omega
theorem Lay.trans {c b off fb foff : Nat} {m : Int} {l : List Pt} {fr : List Int} {LV FV vo vn vo' vn' : Value} {at' : Int} {outs : List Pt} {nums : List Int} {w w' : World} (h : Lay c b off fb foff m l fr w)
    (hC : Cop c LV FV vo vn at' outs nums w) (hT : Trans c vo vn w vo' vn' w') : Lay c b off fb foff m l fr w' := by
  have e0 : ∀ i, w'.cell? ⟨0, i, none⟩ = w.cell? ⟨0, i, none⟩ := fun i => cell_of_block (hT.low hC h.pos)
  have eb : ∀ i, w'.cell? ⟨b, i, none⟩ = w.cell? ⟨b, i, none⟩ := fun i => cell_of_block (hT.low hC h.lb)
  have ef : ∀ i, w'.cell? ⟨fb, i, none⟩ = w.cell? ⟨fb, i, none⟩ := fun i => cell_of_block (hT.low hC h.lf)
  refine ⟨h.pos, h.lb, h.lf, h.len, by rw [e0]; exact h.mx, fun j p hj => ?_, fun j n hj => ?_⟩
  · rw [eb, eb, eb]; exact h.parts j p hj
  · rw [ef]; exact h.ints j n hj
end Go.Proofs.Ytgmkokophcmbnaa
