/- ShapeJoins: for every input of the row the law answers true, and each argument reads afterwards as it read before. Conditions: none; the two tables of unicode/utf8 that the row lists are tied to the program's text by the card. -/
import Derived.ProofKit
import Derived.SizedLaws
import Derived.Test.YtcjmpafkcmlhbaaGreatDoorZJB
import Derived.Test.YtcjmpafkcmlhbaaGreatDoorQBN
namespace Go.Proofs.YtcjmpafkcmlhbaaGreatDoor
set_option linter.all false
open Go.ChangeShapes Go.WideShapes Go.ChangeAt Go.RowKit Go.WideMaps Go.Lib
open Go.ChangeMaps (open_string)
namespace shapeJoins

theorem row_laid : Rows.shapeJoinsRow.laid = uN := by
  show (Rows.shapeJoinsRow.laid.map Prod.fst).zip [Rows.laid_unicode_utf8_acceptRanges, Go.Pinned.utf8First] = uN
  rw [Pinned.utf8First_eq]
  kernel_rfl
theorem witness_row (os : Os) {H : Type} (enc : TypeId × Value → H) :
    (OpenSpec.ofChange Rows.shapeJoinsSpec).preRow enc Tryz.prog Tryz.f5 Rows.shapeJoinsRow.domain false uN ((YH os).forCall (fun _ _ => 0) ⟨#[], #[.string ⟨#[]⟩, .string ⟨#[]⟩], []⟩).memory #[.string ⟨#[]⟩, .string ⟨#[]⟩] := by
  have hw : (DataW.whole enc Tryz.prog ((YH os).forCall (fun _ _ => 0) ⟨#[], #[.string ⟨#[]⟩, .string ⟨#[]⟩], []⟩).memory Tryz.f5.params.toList (OpenSpec.ofChange Rows.shapeJoinsSpec).vars false #[Value.string ⟨#[]⟩, Value.string ⟨#[]⟩].toList 8).map (fun x => (x.1, x.2.1)) =
      some ([.lit (.string []), .lit (.string [])], []) := by kernel_rfl
  obtain ⟨⟨x1, x2, x3⟩, hx, hx1⟩ := Option.map_eq_some_iff.1 hw
  simp only [Prod.mk.injEq] at hx1
  obtain ⟨rfl, rfl⟩ := hx1
  exact OpenSpec.preRow_of_cond 8 hx (by kernel_rfl) (fun k hk => by cases hk) (by kernel_rfl) (LU os _)
set_option maxRecDepth 100000 in
set_option maxHeartbeats 2000000 in
theorem lifted (os : Os) (started : os.Started) (H : Type) (enc : TypeId × Value → H) (F : Stop.Interp) :
    ReturnsInHanded {} Tryz.checked os 5 .any ((OpenSpec.ofChange Rows.shapeJoinsSpec).preRow enc Tryz.prog Tryz.f5 Rows.shapeJoinsRow.domain false Rows.shapeJoinsRow.laid) (((OpenSpec.ofChange Rows.shapeJoinsSpec).at F).post enc Tryz.prog Tryz.f5 false true false false) := by
  rw [row_laid]
  refine returnsInHanded_of_row (C := Tryz.checked) (s := OpenSpec.ofChange Rows.shapeJoinsSpec) own started (by kernel_rfl) Tryz.func5
    (witness_row_atRef (enc := enc) (C := Tryz.checked) false (YH os) #[.string ⟨#[]⟩, .string ⟨#[]⟩] rfl (by kernel_rfl) (by kernel_rfl) (by kernel_rfl) (witness_row os enc)) ?_
  intro W base args ds gs before hval0 hW _ _ hsz hL hsh _
  have hval : ∀ (j : Nat) t v, Tryz.f5.params[j]? = some t → args[j]? = some v → Value.okWide Tryz.prog W .any base t v := hval0
  have hW' := hW
  obtain ⟨p, q, hA0, hV, rfl, hfz, hnd⟩ := hW
  have hA : DataW.TrodAll enc Tryz.prog W 0 (fun _ => true) true Tryz.f5.params.toList args.toList ds p := hA0
  rw [Tryz.params5] at hA hval hsz
  obtain ⟨v0, vs0, d0, ds0, p0, q0, hargs, rfl, rfl, h0, r0⟩ := trodAll_cons hA
  obtain ⟨v1, vs1, d1, ds1, p1, q1, rfl, rfl, rfl, h1, r1⟩ := trodAll_cons r0
  obtain ⟨rfl, rfl, rfl⟩ := trodAll_nil r1
  obtain rfl : args = #[v0, v1] := by cases args; simp_all
  obtain ⟨rfl, rfl⟩ := trodVars_none hV
  obtain ⟨s0, rfl, rfl, rfl, ws0⟩ := open_string Tryz.underlying9 (hval 0 9 v0 rfl rfl) h0
  obtain ⟨s1, rfl, rfl, rfl, ws1⟩ := open_string Tryz.underlying9 (hval 1 9 v1 rfl rfl) h1
  have hT := FW hL hsh
  have reach : ∀ (j : Nat) (l : List UInt8), (#[9, 9].toList ++ DataSpec.varTypes Tryz.checked.prog (OpenSpec.ofChange Rows.shapeJoinsSpec).bare.plain)[j]? = some 9 → ([DataW.lit (Lit.string s0.data.toList), DataW.lit (Lit.string s1.data.toList)] ++ [] : List (DataW H))[j]? = some (DataW.lit (Lit.string l)) → l.length ≤ 140737488351232 := fun j l ht hd => by
    have hm : l.length ∈ (DataW.lit (H := H) (Lit.string l)).weights Tryz.prog 9 := by simp [DataW.weights]
    have h1 := List.all_eq_true.1 hsz _ (DataW.weights_mem_each (P := Tryz.prog) ht hd _ hm)
    have h2 : reachBytes = 140737488351232 := rfl
    simp only [h2, decide_eq_true_eq] at h1
    exact h1
  have hb0 := reach 0 s0.data.toList rfl rfl
  have hb1 := reach 1 s1.data.toList rfl rfl
  have hw := Shp.PQ0 (w := W) s0.data.toList s1.data.toList hT (by omega)
  rw [show (⟨s0.data.toList.toArray⟩ : ByteArray) = s0 by simp, show (⟨s1.data.toList.toArray⟩ : ByteArray) = s1 by simp] at hw
  refine hw.mono fun e W' ⟨he, hb⟩ => ?_
  subst he
  exact ⟨_, rfl, AV (s := Rows.shapeJoinsSpec) (b4 := 4) NW (by kernel_rfl) rfl rfl Tryz.underlying4 ⟨rfl, rfl, rfl⟩ hW' hb⟩
theorem said : Rows.ShapeJoinsSaid :=
  OpenClaim.holds_of_cond 5 Tryz.f5 rfl rfl rfl rfl rfl rfl rfl ⟨rfl, rfl, rfl, rfl, rfl⟩ rfl rfl rfl rfl rfl (by kernel_rfl) Tryz.func5 (by kernel_rfl)
    (of_decide_eq_true (by kernel_rfl)) (by unfold Func.isWrapper; first | (rw [if_pos (by decide +kernel)]; kernel_rfl) | (rw [if_neg (by decide +kernel)]; exact ⟨rfl, rfl⟩))
    (fun os started H enc _ F0 => by rw [OpenClaim.pre_eq_preRow]; exact lifted os started H enc F0)
theorem holds : Rows.ShapeJoinsCardSaid :=
  Claim7.holds_tied_plain_at .later [] [.data, .pinned] true (true, "7591058258987127a8e455b6e24cf410bc940fd6986c239928999d8a96951e7e") true
    said (fun _ h => by cases h) (by kernel_rfl) (fun _ h => by cases h) shapeJoins_row_tie rfl ⟨rfl, rfl⟩ (by kernel_rfl) rfl
    (fun f fn hf hfn => by
      obtain rfl : f = 5 := Option.some.inj ((show Tryz.prog.funcNamed Tryz.f5.name = some 5 by kernel_rfl).symm.trans hf) |>.symm
      obtain rfl : fn = Tryz.f5 := (Option.some.inj (Tryz.func5.symm.trans hfn)).symm
      exact ⟨by kernel_rfl, fun j t ht => by
        rw [Tryz.params5] at ht
        have h3 : t = 9 := by
          rcases j with _ | _ | j
          · simpa using ht.symm
          · simpa using ht.symm
          · simp at ht
        subst h3
        exact (show Tryz.prog.wantsStandIn 9 = false by kernel_rfl)⟩)
    (by kernel_rfl)
#print axioms holds
end shapeJoins
end Go.Proofs.YtcjmpafkcmlhbaaGreatDoor
