/- SyntaxTerms: for every input of the row the law answers true, and each argument reads afterwards as it read before. Conditions: none; the two tables of unicode/utf8 that the row lists are tied to the program's text by the card. -/
import Derived.Test.YtjdllofmhglmiaaGreatDoorZTA
import Derived.Test.YtjdllofmhglmiaaGreatDoorZTB
namespace Go.Proofs.YtjdllofmhglmiaaGreatDoor
set_option linter.all false
open Go.ChangeShapes Go.WideShapes Go.ChangeAt Go.RowKit Go.WideMaps Go.Lib
open Go.ChangeMaps (open_string)
namespace syntaxTerms

theorem row_laid : Rows.syntaxTermsRow.laid = uN := by
  show (Rows.syntaxTermsRow.laid.map Prod.fst).zip [Rows.laid_unicode_utf8_acceptRanges, Go.Pinned.utf8First] = uN
  rw [Pinned.utf8First_eq]
  kernel_rfl
theorem witness_row (os : Os) {H : Type} (enc : TypeId × Value → H) :
    (OpenSpec.ofChange Rows.syntaxTermsSpec).preRow enc Tryz.prog Tryz.f7 Rows.syntaxTermsRow.domain false uN ((YH os).forCall (fun _ _ => 0) ⟨#[], #[.int .u8 0, .string ⟨#[]⟩], []⟩).memory #[.int .u8 0, .string ⟨#[]⟩] := by
  have hw : (DataW.whole enc Tryz.prog ((YH os).forCall (fun _ _ => 0) ⟨#[], #[.int .u8 0, .string ⟨#[]⟩], []⟩).memory Tryz.f7.params.toList (OpenSpec.ofChange Rows.syntaxTermsSpec).vars false #[Value.int .u8 0, Value.string ⟨#[]⟩].toList 8).map (fun x => (x.1, x.2.1)) =
      some ([.lit (.int .u8 0), .lit (.string [])], []) := by kernel_rfl
  obtain ⟨⟨x1, x2, x3⟩, hx, hx1⟩ := Option.map_eq_some_iff.1 hw
  simp only [Prod.mk.injEq] at hx1
  obtain ⟨rfl, rfl⟩ := hx1
  exact OpenSpec.preRow_of_cond 8 hx (by kernel_rfl) (fun k hk => by cases hk) (by kernel_rfl) (LU os _)
set_option maxRecDepth 100000 in
set_option maxHeartbeats 2000000 in
theorem lifted (os : Os) (started : os.Started) (H : Type) (enc : TypeId × Value → H) (F : Stop.Interp) :
    ReturnsInHanded {} Tryz.checked os 7 .any ((OpenSpec.ofChange Rows.syntaxTermsSpec).preRow enc Tryz.prog Tryz.f7 Rows.syntaxTermsRow.domain false Rows.syntaxTermsRow.laid) (((OpenSpec.ofChange Rows.syntaxTermsSpec).at F).post enc Tryz.prog Tryz.f7 false true false false) := by
  rw [row_laid]
  refine returnsInHanded_of_row (C := Tryz.checked) (s := OpenSpec.ofChange Rows.syntaxTermsSpec) own started (by kernel_rfl) Tryz.func7
    (witness_row_atRef (enc := enc) (C := Tryz.checked) false (YH os) #[.int .u8 0, .string ⟨#[]⟩] rfl (by kernel_rfl) (by kernel_rfl) (by kernel_rfl) (witness_row os enc)) ?_
  intro W base args ds gs before hval0 hW _ _ _ hL hsh _
  have hval : ∀ (j : Nat) t v, Tryz.f7.params[j]? = some t → args[j]? = some v → Value.okWide Tryz.prog W .any base t v := hval0
  have hW' := hW
  obtain ⟨p, q, hA0, hV, rfl, hfz, hnd⟩ := hW
  have hA : DataW.TrodAll enc Tryz.prog W 0 (fun _ => true) true Tryz.f7.params.toList args.toList ds p := hA0
  rw [Tryz.params7] at hA hval
  obtain ⟨v0, vs0, d0, ds0, p0, q0, hargs, rfl, rfl, h0, r0⟩ := trodAll_cons hA
  obtain ⟨v1, vs1, d1, ds1, p1, q1, rfl, rfl, rfl, h1, r1⟩ := trodAll_cons r0
  obtain ⟨rfl, rfl, rfl⟩ := trodAll_nil r1
  obtain rfl : args = #[v0, v1] := by cases args; simp_all
  obtain ⟨rfl, rfl⟩ := trodVars_none hV
  obtain ⟨a0, rfl, rfl, rfl, ws0⟩ := open_int Tryz.underlying5 (hval 0 5 v0 rfl rfl) h0
  obtain ⟨s1, rfl, rfl, rfl, ws1⟩ := open_string Tryz.underlying9 (hval 1 9 v1 rfl rfl) h1
  have hT := FW hL hsh
  have hr : 0 ≤ a0 ∧ a0 < 256 := by
    have h : (decide (IntKind.u8.min ≤ a0) && decide (a0 ≤ IntKind.u8.max)) = true := ws0
    rw [show IntKind.u8.min = 0 by rfl, show IntKind.u8.max = 255 by rfl] at h
    simp only [Bool.and_eq_true, decide_eq_true_eq] at h
    omega
  obtain ⟨k, rfl⟩ := Int.eq_ofNat_of_zero_le hr.1
  have e0 : ((UInt8.ofNat k).toNat : Int) = (k : Int) := by
    have : k < 256 := by omega
    simp [UInt8.toNat_ofNat', Nat.mod_eq_of_lt this]
  have hw := Rf.terms_law (w := W) (UInt8.ofNat k) s1.data.toList hT
  rw [e0, show (⟨s1.data.toList.toArray⟩ : ByteArray) = s1 by simp] at hw
  refine hw.mono fun e W' ⟨he, hb⟩ => ?_
  subst he
  exact ⟨_, rfl, AV (s := Rows.syntaxTermsSpec) (b4 := 4) NW (by kernel_rfl) rfl rfl Tryz.underlying4 ⟨rfl, rfl, rfl⟩ hW' hb⟩
theorem said : Rows.SyntaxTermsSaid :=
  OpenClaim.holds_of_cond 7 Tryz.f7 rfl rfl rfl rfl rfl rfl rfl ⟨rfl, rfl, rfl, rfl, rfl⟩ rfl rfl rfl rfl rfl (by kernel_rfl) Tryz.func7 (by kernel_rfl)
    (of_decide_eq_true (by kernel_rfl)) (by unfold Func.isWrapper; first | (rw [if_pos (by decide +kernel)]; kernel_rfl) | (rw [if_neg (by decide +kernel)]; exact ⟨rfl, rfl⟩))
    (fun os started H enc _ F0 => by rw [OpenClaim.pre_eq_preRow]; exact lifted os started H enc F0)
theorem holds : Rows.SyntaxTermsCardSaid :=
  Claim7.holds_tied_plain_at .later [] [.data, .pinned] true (true, "480b6226f8b6ad432b6fa4d0622f88aaf59d89b8e9a3b9f85881faac6b3d48a3") true
    said (fun _ h => by cases h) (by kernel_rfl) (fun _ h => by cases h) syntaxTerms_row_tie rfl ⟨rfl, rfl⟩ (by kernel_rfl) rfl
    (fun f fn hf hfn => by
      obtain rfl : f = 7 := Option.some.inj ((show Tryz.prog.funcNamed Tryz.f7.name = some 7 by kernel_rfl).symm.trans hf) |>.symm
      obtain rfl : fn = Tryz.f7 := (Option.some.inj (Tryz.func7.symm.trans hfn)).symm
      exact ⟨by kernel_rfl, fun j t ht => by
        rw [Tryz.params7] at ht
        have h3 : t = 5 ∨ t = 9 := by
          rcases j with _ | _ | j
          · exact .inl (by simpa using ht.symm)
          · exact .inr (by simpa using ht.symm)
          · simp at ht
        rcases h3 with rfl | rfl
        · exact (show Tryz.prog.wantsStandIn 5 = false by kernel_rfl)
        · exact (show Tryz.prog.wantsStandIn 9 = false by kernel_rfl)⟩)
    (by kernel_rfl)
#print axioms holds
end syntaxTerms
end Go.Proofs.YtjdllofmhglmiaaGreatDoor
