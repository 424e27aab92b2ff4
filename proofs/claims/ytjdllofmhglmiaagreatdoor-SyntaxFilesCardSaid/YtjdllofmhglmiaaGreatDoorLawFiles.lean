/- SyntaxFiles: for every input of the row the law answers true, and each argument reads afterwards as it read before. Conditions: none; the two tables of unicode/utf8 that the row lists are tied to the program's text by the card. -/
import Derived.Test.YtjdllofmhglmiaaGreatDoorZFA
import Derived.Test.YtjdllofmhglmiaaGreatDoorZFB
namespace Go.Proofs.YtjdllofmhglmiaaGreatDoor
set_option linter.all false
open Go.ChangeShapes Go.WideShapes Go.ChangeAt Go.RowKit Go.WideMaps Go.Lib
open Go.ChangeMaps (open_string)
namespace syntaxFiles

theorem row_laid : Rows.syntaxFilesRow.laid = uN := by
  show (Rows.syntaxFilesRow.laid.map Prod.fst).zip [Rows.laid_unicode_utf8_acceptRanges, Go.Pinned.utf8First] = uN
  rw [Pinned.utf8First_eq]
  kernel_rfl
theorem witness_row (os : Os) {H : Type} (enc : TypeId × Value → H) :
    (OpenSpec.ofChange Rows.syntaxFilesSpec).preRow enc Tryz.prog Tryz.f6 Rows.syntaxFilesRow.domain false uN ((YH os).forCall (fun _ _ => 0) ⟨#[], #[.string ⟨#[]⟩], []⟩).memory #[.string ⟨#[]⟩] := by
  have hw : (DataW.whole enc Tryz.prog ((YH os).forCall (fun _ _ => 0) ⟨#[], #[.string ⟨#[]⟩], []⟩).memory Tryz.f6.params.toList (OpenSpec.ofChange Rows.syntaxFilesSpec).vars false #[Value.string ⟨#[]⟩].toList 8).map (fun x => (x.1, x.2.1)) =
      some ([.lit (.string [])], []) := by kernel_rfl
  obtain ⟨⟨x1, x2, x3⟩, hx, hx1⟩ := Option.map_eq_some_iff.1 hw
  simp only [Prod.mk.injEq] at hx1
  obtain ⟨rfl, rfl⟩ := hx1
  exact OpenSpec.preRow_of_cond 8 hx (by kernel_rfl) (fun k hk => by cases hk) (by kernel_rfl) (LU os _)
set_option maxRecDepth 100000 in
set_option maxHeartbeats 2000000 in
theorem lifted (os : Os) (started : os.Started) (H : Type) (enc : TypeId × Value → H) (F : Stop.Interp) :
    ReturnsInHanded {} Tryz.checked os 6 .any ((OpenSpec.ofChange Rows.syntaxFilesSpec).preRow enc Tryz.prog Tryz.f6 Rows.syntaxFilesRow.domain false Rows.syntaxFilesRow.laid) (((OpenSpec.ofChange Rows.syntaxFilesSpec).at F).post enc Tryz.prog Tryz.f6 false true false false) := by
  rw [row_laid]
  refine returnsInHanded_of_row (C := Tryz.checked) (s := OpenSpec.ofChange Rows.syntaxFilesSpec) own started (by kernel_rfl) Tryz.func6
    (witness_row_atRef (enc := enc) (C := Tryz.checked) false (YH os) #[.string ⟨#[]⟩] rfl (by kernel_rfl) (by kernel_rfl) (by kernel_rfl) (witness_row os enc)) ?_
  intro W base args ds gs before hval0 hW _ _ _ hL hsh _
  have hval : ∀ (j : Nat) t v, Tryz.f6.params[j]? = some t → args[j]? = some v → Value.okWide Tryz.prog W .any base t v := hval0
  have hW' := hW
  obtain ⟨p, q, hA0, hV, rfl, hfz, hnd⟩ := hW
  have hA : DataW.TrodAll enc Tryz.prog W 0 (fun _ => true) true Tryz.f6.params.toList args.toList ds p := hA0
  rw [Tryz.params6] at hA hval
  obtain ⟨v0, vs0, d0, ds0, p0, q0, hargs, rfl, rfl, h0, r0⟩ := trodAll_cons hA
  obtain ⟨rfl, rfl, rfl⟩ := trodAll_nil r0
  obtain rfl : args = #[v0] := by cases args; simp_all
  obtain ⟨rfl, rfl⟩ := trodVars_none hV
  obtain ⟨s1, rfl, rfl, rfl, ws1⟩ := open_string Tryz.underlying9 (hval 0 9 v0 rfl rfl) h0
  have hT := FW hL hsh
  have hw := Rf.files_law (w := W) s1.data.toList hT
  rw [show (⟨s1.data.toList.toArray⟩ : ByteArray) = s1 by simp] at hw
  refine hw.mono fun e W' ⟨he, hb⟩ => ?_
  subst he
  exact ⟨_, rfl, AV (s := Rows.syntaxFilesSpec) (b4 := 4) NW (by kernel_rfl) rfl rfl Tryz.underlying4 ⟨rfl, rfl, rfl⟩ hW' hb⟩
theorem said : Rows.SyntaxFilesSaid :=
  OpenClaim.holds_of_cond 6 Tryz.f6 rfl rfl rfl rfl rfl rfl rfl ⟨rfl, rfl, rfl, rfl, rfl⟩ rfl rfl rfl rfl rfl (by kernel_rfl) Tryz.func6 (by kernel_rfl)
    (of_decide_eq_true (by kernel_rfl)) (by unfold Func.isWrapper; first | (rw [if_pos (by decide +kernel)]; kernel_rfl) | (rw [if_neg (by decide +kernel)]; exact ⟨rfl, rfl⟩))
    (fun os started H enc _ F0 => by rw [OpenClaim.pre_eq_preRow]; exact lifted os started H enc F0)
theorem holds : Rows.SyntaxFilesCardSaid :=
  Claim7.holds_tied_plain_at .later [] [.data, .pinned] true (true, "480b6226f8b6ad432b6fa4d0622f88aaf59d89b8e9a3b9f85881faac6b3d48a3") true
    said (fun _ h => by cases h) (by kernel_rfl) (fun _ h => by cases h) syntaxFiles_row_tie rfl ⟨rfl, rfl⟩ (by kernel_rfl) rfl
    (fun f fn hf hfn => by
      obtain rfl : f = 6 := Option.some.inj ((show Tryz.prog.funcNamed Tryz.f6.name = some 6 by kernel_rfl).symm.trans hf) |>.symm
      obtain rfl : fn = Tryz.f6 := (Option.some.inj (Tryz.func6.symm.trans hfn)).symm
      exact ⟨by kernel_rfl, fun j t ht => by
        rw [Tryz.params6] at ht
        have h3 : t = 9 := by
          rcases j with _ | j
          · simpa using ht.symm
          · simp at ht
        rcases h3 with rfl
        exact (show Tryz.prog.wantsStandIn 9 = false by kernel_rfl)⟩)
    (by kernel_rfl)
#print axioms holds
end syntaxFiles
end Go.Proofs.YtjdllofmhglmiaaGreatDoor
