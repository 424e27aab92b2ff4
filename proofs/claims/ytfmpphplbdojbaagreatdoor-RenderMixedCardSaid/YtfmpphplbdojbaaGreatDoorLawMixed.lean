/- RenderMixed: for every input of the row the law answers true, and each argument reads afterwards as it read before. Conditions: none; the two tables of unicode/utf8 that the row lists are tied to the program's text by the card. -/
import Derived.ProofKit
import Derived.SizedLaws
import Derived.Test.YtfmpphplbdojbaaGreatDoorZMC
import Derived.Test.YtfmpphplbdojbaaGreatDoorZMB
import Derived.Test.YtfmpphplbdojbaaGreatDoorQBP
namespace Go.Proofs.YtfmpphplbdojbaaGreatDoor
set_option linter.all false
open Go.ChangeShapes Go.WideShapes Go.ChangeAt Go.RowKit Go.WideMaps Go.Lib
open Go.ChangeMaps (open_string)
namespace renderMixed

theorem row_laid : Rows.renderMixedRow.laid = uN := by
  show (Rows.renderMixedRow.laid.map Prod.fst).zip [Rows.laid_unicode_utf8_acceptRanges, Go.Pinned.utf8First] = uN
  rw [Pinned.utf8First_eq]
  kernel_rfl
theorem witness_row (os : Os) {H : Type} (enc : TypeId × Value → H) :
    (OpenSpec.ofChange Rows.renderMixedSpec).preRow enc Tryz.prog Tryz.f4 Rows.renderMixedRow.domain false uN ((YH os).forCall (fun _ _ => 0) ⟨#[], #[.slice none 0 0, .slice none 0 0], []⟩).memory #[.slice none 0 0, .slice none 0 0] := by
  have hw : (DataW.whole enc Tryz.prog ((YH os).forCall (fun _ _ => 0) ⟨#[], #[.slice none 0 0, .slice none 0 0], []⟩).memory Tryz.f4.params.toList (OpenSpec.ofChange Rows.renderMixedSpec).vars false #[Value.slice none 0 0, Value.slice none 0 0].toList 8).map (fun x => (x.1, x.2.1)) =
      some ([.nil, .nil], []) := by kernel_rfl
  obtain ⟨⟨x1, x2, x3⟩, hx, hx1⟩ := Option.map_eq_some_iff.1 hw
  simp only [Prod.mk.injEq] at hx1
  obtain ⟨rfl, rfl⟩ := hx1
  exact OpenSpec.preRow_of_cond 8 hx (by kernel_rfl) (fun k hk => by cases hk) (by kernel_rfl) (LU os _)
set_option maxRecDepth 100000 in
set_option maxHeartbeats 2000000 in
theorem lifted (os : Os) (started : os.Started) (H : Type) (enc : TypeId × Value → H) (F : Stop.Interp) :
    ReturnsInHanded {} Tryz.checked os 4 .any ((OpenSpec.ofChange Rows.renderMixedSpec).preRow enc Tryz.prog Tryz.f4 Rows.renderMixedRow.domain false Rows.renderMixedRow.laid) (((OpenSpec.ofChange Rows.renderMixedSpec).at F).post enc Tryz.prog Tryz.f4 false true false false) := by
  rw [row_laid]
  refine returnsInHanded_of_row (C := Tryz.checked) (s := OpenSpec.ofChange Rows.renderMixedSpec) own started (by kernel_rfl) Tryz.func4
    (witness_row_atRef (enc := enc) (C := Tryz.checked) false (YH os) #[.slice none 0 0, .slice none 0 0] rfl (by kernel_rfl) (by kernel_rfl) (by kernel_rfl) (witness_row os enc)) ?_
  intro W base args ds gs before hval0 hW _ _ hsz hL hsh _
  have hval : ∀ (j : Nat) t v, Tryz.f4.params[j]? = some t → args[j]? = some v → Value.okWide Tryz.prog W .any base t v := hval0
  have hW' := hW
  obtain ⟨p, q, hA0, hV, rfl, hfz, hnd⟩ := hW
  have hA : DataW.TrodAll enc Tryz.prog W 0 (fun _ => true) true Tryz.f4.params.toList args.toList ds p := hA0
  rw [Tryz.params4] at hA hval hsz
  obtain ⟨v0, vs0, d0, ds0, p0, q0, hargs, rfl, rfl, h0, r0⟩ := trodAll_cons hA
  obtain ⟨v1, vs1, d1, ds1, p1, q1, rfl, rfl, rfl, h1, r1⟩ := trodAll_cons r0
  obtain ⟨rfl, rfl, rfl⟩ := trodAll_nil r1
  obtain rfl : args = #[v0, v1] := by cases args; simp_all
  obtain ⟨rfl, rfl⟩ := trodVars_none hV
  obtain ⟨a, l, cap, rfl, hcap, hl, hd⟩ := kR (hval 0 22 v0 rfl rfl) h0
  obtain ⟨ra, R, rc, rfl, hr, hdr⟩ := CQ9 (hval 1 29 v1 rfl rfl) h1
  have hT := FW hL hsh
  have h2 : reachBytes = 140737488351232 := rfl
  obtain ⟨hlen, hwl⟩ := SQ6 (M := 140737488351232) (fun x hx => by
    have h1 := List.all_eq_true.1 hsz _ (DataW.weights_mem_each (P := Tryz.prog) (j := 0) (t := 22) (d := d0) rfl rfl _ hx)
    simp only [h2, decide_eq_true_eq] at h1
    exact h1) hd
  obtain ⟨hrlen, hrw⟩ := qQ9 (M := 140737488351232) (fun x hx => by
    have h1 := List.all_eq_true.1 hsz _ (DataW.weights_mem_each (P := Tryz.prog) (j := 1) (t := 29) (d := d1) rfl rfl _ hx)
    simp only [h2, decide_eq_true_eq] at h1
    exact h1) hdr
  have hw := Ck.mixed_law (w := W) a ra cap rc hl hr hlen hrlen hwl hrw hT
  refine hw.mono fun e W' ⟨he, hb⟩ => ?_
  subst he
  exact ⟨_, rfl, AV (s := Rows.renderMixedSpec) (b4 := 4) NW (by kernel_rfl) rfl rfl Tryz.underlying4 ⟨rfl, rfl, rfl⟩ hW' hb⟩
theorem said : Rows.RenderMixedSaid :=
  OpenClaim.holds_of_cond 4 Tryz.f4 rfl rfl rfl rfl rfl rfl rfl ⟨rfl, rfl, rfl, rfl, rfl⟩ rfl rfl rfl rfl rfl (by kernel_rfl) Tryz.func4 (by kernel_rfl)
    (of_decide_eq_true (by kernel_rfl)) (by unfold Func.isWrapper; first | (rw [if_pos (by decide +kernel)]; kernel_rfl) | (rw [if_neg (by decide +kernel)]; exact ⟨rfl, rfl⟩))
    (fun os started H enc _ F0 => by rw [OpenClaim.pre_eq_preRow]; exact lifted os started H enc F0)
theorem holds : Rows.RenderMixedCardSaid :=
  Claim7.holds_tied_plain_at .later [] [.data, .pinned] true (true, "dbb6135d3520b8c436783097ee2b2ca4e7676026b621e360bb8ca8fbf32d22f8") true
    said (fun _ h => by cases h) (by kernel_rfl) (fun _ h => by cases h) renderMixed_row_tie rfl ⟨rfl, rfl⟩ (by kernel_rfl) rfl
    (fun f fn hf hfn => by
      obtain rfl : f = 4 := Option.some.inj ((show Tryz.prog.funcNamed Tryz.f4.name = some 4 by kernel_rfl).symm.trans hf) |>.symm
      obtain rfl : fn = Tryz.f4 := (Option.some.inj (Tryz.func4.symm.trans hfn)).symm
      exact ⟨by kernel_rfl, fun j t ht => by
        rw [Tryz.params4] at ht
        have h3 : t = 22 ∨ t = 29 := by
          rcases j with _ | _ | j
          · exact .inl (by simpa using ht.symm)
          · exact .inr (by simpa using ht.symm)
          · simp at ht
        rcases h3 with rfl | rfl
        · exact (show Tryz.prog.wantsStandIn 22 = false by kernel_rfl)
        · exact (show Tryz.prog.wantsStandIn 29 = false by kernel_rfl)⟩)
    (by kernel_rfl)
#print axioms holds
end renderMixed
end Go.Proofs.YtfmpphplbdojbaaGreatDoor
