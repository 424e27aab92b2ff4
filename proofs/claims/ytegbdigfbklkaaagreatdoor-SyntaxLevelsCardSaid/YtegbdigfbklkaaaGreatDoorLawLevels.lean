/- SyntaxLevels: for every input of the row the law answers true, and each argument reads afterwards as it read before. Conditions: none; the two tables of unicode/utf8 that the row lists are tied to the program's text by the card. -/
import Derived.ProofKit
import Derived.SizedLaws
import Derived.Deep.Slices
import Derived.ChangeArms
import Derived.Test.YtegbdigfbklkaaaGreatDoorZLB
import Derived.Test.YtegbdigfbklkaaaGreatDoorQBW
namespace Go.Proofs.YtegbdigfbklkaaaGreatDoor
set_option linter.all false
open Go.ChangeShapes Go.WideShapes Go.ChangeAt Go.RowKit Go.WideMaps Go.Lib
open Go.ChangeMaps (open_string)
namespace syntaxLevels
/-- so many things, one for each number -/
theorem list_of {α : Type} (P : Nat → α → Prop) : ∀ n : Nat, (∀ i, i < n → ∃ p, P i p) → ∃ l : List α, l.length = n ∧ ∀ i p, l[i]? = some p → P i p
  | 0, _ => ⟨[], rfl, fun i p h => by simp at h⟩
  | n + 1, h => by
    obtain ⟨l, hl, hp⟩ := list_of P n (fun i hi => h i (by omega))
    obtain ⟨q, hq⟩ := h n (by omega)
    refine ⟨l ++ [q], by simp [hl], fun i p hi => ?_⟩
    by_cases hin : i < l.length
    · rw [List.getElem?_append_left hin] at hi; exact hp i p hi
    · rw [List.getElem?_append_right (by omega)] at hi
      have h0 : i - l.length = 0 := by
        rcases Nat.eq_zero_or_pos (i - l.length) with e | e
        · exact e
        · rw [List.getElem?_eq_none (by simp; omega)] at hi; cases hi
      rw [h0] at hi
      have h1 : i = n := by omega
      cases hi
      rw [h1]; exact hq
section
variable {H : Type} {enc : TypeId × Value → H} {W : World} {sp : Nat → Bool} {held : Bool}
set_option maxRecDepth 100000 in
/-- a slice of bytes that came in lies in memory, to be read -/
theorem open_bytes {r : Reach} {b0 : Nat} {v : Value} {d : DataW H} {p : List MemPlace} (hv : Value.okWide Tryz.prog W r b0 22 v) (h : DataW.Trod enc Tryz.prog W 0 sp held 22 v d p) :
    ∃ (a : Option Addr) (l : List UInt8) (cap : Nat), v = .slice a l.length cap ∧ l.length ≤ cap ∧ BytesAt W a l := by
  obtain ⟨a, len, cap, rfl⟩ := okWide_slice Tryz.underlying22 hv
  obtain ⟨fuel, hf⟩ := h
  rcases Deep.open_slice1 Tryz.underlying22 (by kernel_rfl) hf with ⟨hcs, _⟩ | ⟨a', len', cap', m, n, V, D, Pl, hcs, _, hl, _, hm, hx, hi⟩
  · simp [Value.cells] at hcs
    obtain ⟨rfl, rfl, rfl⟩ := hcs
    exact ⟨none, [], 0, rfl, Nat.le_refl _, .inl rfl⟩
  · simp [Value.cells] at hcs
    obtain ⟨rfl, rfl, rfl⟩ := hcs
    have hml : len ≤ m := by rw [hm]; split <;> omega
    obtain ⟨l, hll, hlp⟩ := list_of (fun i (q : UInt8) => W.cell? (a'.add i) = some (.int .u8 (q.toNat : Int))) len (fun i hil => by
      obtain ⟨c0, t0⟩ := hi i (by omega)
      obtain ⟨k, hk, _, wk⟩ := DataW.trod_int Tryz.underlying5 t0
      simp only [List.cons.injEq, and_true] at hk
      have hr : 0 ≤ k ∧ k < 256 := by
        have h : (decide (IntKind.u8.min ≤ k) && decide (k ≤ IntKind.u8.max)) = true := wk
        rw [show IntKind.u8.min = 0 by rfl, show IntKind.u8.max = 255 by rfl] at h
        simp only [Bool.and_eq_true, decide_eq_true_eq] at h
        omega
      obtain ⟨k, rfl⟩ := Int.eq_ofNat_of_zero_le hr.1
      have e0 : ((UInt8.ofNat k).toNat : Int) = (k : Int) := by
        have : k < 256 := by omega
        simp [UInt8.toNat_ofNat', Nat.mod_eq_of_lt this]
      exact ⟨UInt8.ofNat k, by rw [c0, hk, e0]⟩)
    subst hll
    refine ⟨some a', l, cap, rfl, hl, ?_⟩
    by_cases h0 : l = []
    · exact .inl h0
    · have hpos : 0 < l.length := List.length_pos_iff.2 h0
      have c0 := hlp 0 l[0] (List.getElem?_eq_getElem hpos)
      have ha : a'.add 0 = a' := by simp [Addr.add]
      rw [ha] at c0
      obtain ⟨b, o, spt⟩ := a'
      have hs : spt = none := by
        cases spt with
        | none => rfl
        | some x =>
          simp only [World.cell?] at c0
          split at c0 <;> simp at c0
      subst hs
      refine .inr ⟨b, o, rfl, World.block_lt_of_cell? W _ c0, fun j q hj => ?_⟩
      have g0 := hlp j q hj
      have had : ∀ n, (Addr.mk b o none).add n = ⟨b, o + n, none⟩ := fun n => by
        unfold Addr.add
        split
        · rename_i h; subst h; rfl
        · rfl
      rw [had] at g0
      exact g0
end

theorem row_laid : Rows.syntaxLevelsRow.laid = laidL := by
  show (Rows.syntaxLevelsRow.laid.map Prod.fst).zip [Rows.laid_unicode_utf8_acceptRanges, Go.Pinned.utf8First] = laidL
  rw [Pinned.utf8First_eq]
  kernel_rfl
theorem witness_row (os : Os) {H : Type} (enc : TypeId × Value → H) :
    (OpenSpec.ofChange Rows.syntaxLevelsSpec).preRow enc Tryz.prog Tryz.f3 Rows.syntaxLevelsRow.domain false laidL ((laidWorld os).forCall (fun _ _ => 0) ⟨#[], #[.slice none 0 0], []⟩).memory #[.slice none 0 0] := by
  have hw : (DataW.whole enc Tryz.prog ((laidWorld os).forCall (fun _ _ => 0) ⟨#[], #[.slice none 0 0], []⟩).memory Tryz.f3.params.toList (OpenSpec.ofChange Rows.syntaxLevelsSpec).vars false #[Value.slice none 0 0].toList 8).map (fun x => (x.1, x.2.1)) =
      some ([.nil], []) := by kernel_rfl
  obtain ⟨⟨x1, x2, x3⟩, hx, hx1⟩ := Option.map_eq_some_iff.1 hw
  simp only [Prod.mk.injEq] at hx1
  obtain ⟨rfl, rfl⟩ := hx1
  exact OpenSpec.preRow_of_cond 8 hx (by kernel_rfl) (fun k hk => by cases hk) (by kernel_rfl) (laid_met os _)
set_option maxRecDepth 100000 in
set_option maxHeartbeats 2000000 in
theorem lifted (os : Os) (started : os.Started) (H : Type) (enc : TypeId × Value → H) (F : Stop.Interp) :
    ReturnsInHanded {} Tryz.checked os 3 .any ((OpenSpec.ofChange Rows.syntaxLevelsSpec).preRow enc Tryz.prog Tryz.f3 Rows.syntaxLevelsRow.domain false Rows.syntaxLevelsRow.laid) (((OpenSpec.ofChange Rows.syntaxLevelsSpec).at F).post enc Tryz.prog Tryz.f3 false true false false) := by
  rw [row_laid]
  refine returnsInHanded_of_row (C := Tryz.checked) (s := OpenSpec.ofChange Rows.syntaxLevelsSpec) own started (by kernel_rfl) Tryz.func3
    (witness_row_atRef (enc := enc) (C := Tryz.checked) false (laidWorld os) #[.slice none 0 0] rfl (by kernel_rfl) (by kernel_rfl) (by kernel_rfl) (witness_row os enc)) ?_
  intro W base args ds gs before hval0 hW _ _ _ hL hsh _
  have hval : ∀ (j : Nat) t v, Tryz.f3.params[j]? = some t → args[j]? = some v → Value.okWide Tryz.prog W .any base t v := hval0
  have hW' := hW
  obtain ⟨p, q, hA0, hV, rfl, hfz, hnd⟩ := hW
  have hA : DataW.TrodAll enc Tryz.prog W 0 (fun _ => true) true Tryz.f3.params.toList args.toList ds p := hA0
  rw [Tryz.params3] at hA hval
  obtain ⟨v0, vs0, d0, ds0, p0, q0, hargs, rfl, rfl, h0, r0⟩ := trodAll_cons hA
  obtain ⟨rfl, rfl, rfl⟩ := trodAll_nil r0
  obtain rfl : args = #[v0] := by cases args; simp_all
  obtain ⟨rfl, rfl⟩ := trodVars_none hV
  obtain ⟨a0, l, cap, rfl, hcap, hbs⟩ := open_bytes (hval 0 22 v0 rfl rfl) h0
  have hT := tabs_of hL hsh
  have hw := levels_law (w := W) a0 cap l hcap hbs hT
  refine hw.mono fun e W' ⟨he, hb⟩ => ?_
  subst he
  exact ⟨_, rfl, law_post (s := Rows.syntaxLevelsSpec) (b4 := 4) laidOut (by kernel_rfl) rfl rfl Tryz.underlying4 ⟨rfl, rfl, rfl⟩ hW' hb⟩
theorem said : Rows.SyntaxLevelsSaid :=
  OpenClaim.holds_of_cond 3 Tryz.f3 rfl rfl rfl rfl rfl rfl rfl ⟨rfl, rfl, rfl, rfl, rfl⟩ rfl rfl rfl rfl rfl (by kernel_rfl) Tryz.func3 (by kernel_rfl)
    (of_decide_eq_true (by kernel_rfl)) (by unfold Func.isWrapper; first | (rw [if_pos (by decide +kernel)]; kernel_rfl) | (rw [if_neg (by decide +kernel)]; exact ⟨rfl, rfl⟩))
    (fun os started H enc _ F0 => by rw [OpenClaim.pre_eq_preRow]; exact lifted os started H enc F0)
theorem holds : Rows.SyntaxLevelsCardSaid :=
  Claim7.holds_tied_plain_at .later [] [.data, .pinned] true (true, "f25d45906c3341fb8dbd893487a6e9bbe0f437673835b07cc2107392f3deb1f6") true
    said (fun _ h => by cases h) (by kernel_rfl) (fun _ h => by cases h) syntaxLevels_row_tie rfl ⟨rfl, rfl⟩ (by kernel_rfl) rfl
    (fun f fn hf hfn => by
      obtain rfl : f = 3 := Option.some.inj ((show Tryz.prog.funcNamed Tryz.f3.name = some 3 by kernel_rfl).symm.trans hf) |>.symm
      obtain rfl : fn = Tryz.f3 := (Option.some.inj (Tryz.func3.symm.trans hfn)).symm
      exact ⟨by kernel_rfl, fun j t ht => by
        rw [Tryz.params3] at ht
        have h3 : t = 22 := by
          rcases j with _ | j
          · simpa using ht.symm
          · simp at ht
        subst h3
        exact (show Tryz.prog.wantsStandIn 22 = false by kernel_rfl)⟩)
    (by kernel_rfl)
#print axioms holds
end syntaxLevels
end Go.Proofs.YtegbdigfbklkaaaGreatDoor
