/- RenderRaw, the second form: for every input of the row whose reading is of bulk at most 1048576 the law answers true, and each argument reads afterwards as it read before. Conditions: none but that bulk; the two tables of unicode/utf8 that the row lists are tied to the program's text by the card. -/
import Derived.ProofKit
import Derived.SizedLaws
import Derived.Test.YtfmpphplbdojbaaGreatDoorZRB
import Derived.Test.YtfmpphplbdojbaaGreatDoorZRC
namespace Go.Proofs.YtfmpphplbdojbaaGreatDoor
set_option linter.all false
open Go.ChangeShapes Go.WideShapes Go.ChangeAt Go.RowKit Go.WideMaps Go.Lib
open Go.ChangeMaps (open_string)
namespace renderRaw

theorem bulk_len4 {H : Type} : ∀ l : List Grd.Pt, 4 * l.length ≤ Rows.uptoBulkAll (l.map (ptD H))
  | [] => by simp
  | p :: r => by
    have h1 := bulk_len4 (H := H) r
    simp only [List.map_cons, Rows.uptoBulkAll, List.length_cons, ptD, Rows.uptoBulk]; omega
theorem parts_bulk4 {H : Type} {l : List Grd.Pt} {d : DataW H} {ds : List (DataW H)} (hk : Rows.uptoSmall H (d :: ds) = true) (hl : l ≠ [] → ∃ s, d = .slice (l.map (ptD H)) s) : l.length ≤ 262144 := by
  by_cases h0 : l = []
  · subst h0; simp
  · obtain ⟨s, rfl⟩ := hl h0
    have h : Rows.uptoBulkAll (DataW.slice (l.map (ptD H)) s :: ds) ≤ 1048576 := of_decide_eq_true hk
    have h1 := bulk_len4 (H := H) l
    simp only [Rows.uptoBulkAll, Rows.uptoBulk] at h
    omega
theorem row_laid : Rows.renderRawUptoRow.laid = uN := by
  show (Rows.renderRawUptoRow.laid.map Prod.fst).zip [Rows.laid_unicode_utf8_acceptRanges, Go.Pinned.utf8First] = uN
  rw [Pinned.utf8First_eq]
  kernel_rfl
theorem witness_row (os : Os) {H : Type} (enc : TypeId × Value → H) :
    (Rows.OpenSpec.upto Rows.renderRawSpec).preRow enc Tryz.prog Tryz.f5 Rows.renderRawUptoRow.domain false uN ((YH os).forCall (fun _ _ => 0) ⟨#[], #[.slice none 0 0, .int .i64 0], []⟩).memory #[.slice none 0 0, .int .i64 0] := by
  have hw : (DataW.whole enc Tryz.prog ((YH os).forCall (fun _ _ => 0) ⟨#[], #[.slice none 0 0, .int .i64 0], []⟩).memory Tryz.f5.params.toList (Rows.OpenSpec.upto Rows.renderRawSpec).vars false #[Value.slice none 0 0, Value.int .i64 0].toList 8).map (fun x => (x.1, x.2.1)) =
      some ([.nil, .lit (.int .i64 0)], []) := by kernel_rfl
  obtain ⟨⟨x1, x2, x3⟩, hx, hx1⟩ := Option.map_eq_some_iff.1 hw
  simp only [Prod.mk.injEq] at hx1
  obtain ⟨rfl, rfl⟩ := hx1
  exact OpenSpec.preRow_of_cond 8 hx (by kernel_rfl) (fun k hk => by cases hk; kernel_rfl) (by kernel_rfl) (LU os _)
set_option maxRecDepth 100000 in
set_option maxHeartbeats 2000000 in
theorem lifted (os : Os) (started : os.Started) (H : Type) (enc : TypeId × Value → H) (F : Stop.Interp) :
    ReturnsInHanded {} Tryz.checked os 5 .any ((Rows.OpenSpec.upto Rows.renderRawSpec).preRow enc Tryz.prog Tryz.f5 Rows.renderRawUptoRow.domain false Rows.renderRawUptoRow.laid) (((Rows.OpenSpec.upto Rows.renderRawSpec).at F).post enc Tryz.prog Tryz.f5 false true false false) := by
  rw [row_laid]
  refine returnsInHanded_of_row (C := Tryz.checked) (s := Rows.OpenSpec.upto Rows.renderRawSpec) own started (by kernel_rfl) Tryz.func5
    (witness_row_atRef (enc := enc) (C := Tryz.checked) false (YH os) #[.slice none 0 0, .int .i64 0] rfl (by kernel_rfl) (by kernel_rfl) (by kernel_rfl) (witness_row os enc)) ?_
  intro W base args ds gs before hval0 hW _ hcond _ hL hsh _
  have hk := hcond _ rfl
  have hval : ∀ (j : Nat) t v, Tryz.f5.params[j]? = some t → args[j]? = some v → Value.okWide Tryz.prog W .any base t v := hval0
  have hW' := hW
  obtain ⟨p, q, hA0, hV, rfl, hfz, hnd⟩ := hW
  have hA : DataW.TrodAll enc Tryz.prog W 0 (fun _ => true) true Tryz.f5.params.toList args.toList ds p := hA0
  rw [Tryz.params5] at hA hval
  obtain ⟨v0, vs0, d0, ds0, p0, q0, hargs, rfl, rfl, h0, r0⟩ := trodAll_cons hA
  obtain ⟨v1, vs1, d1, ds1, p1, q1, rfl, rfl, rfl, h1, r1⟩ := trodAll_cons r0
  obtain ⟨rfl, rfl, rfl⟩ := trodAll_nil r1
  obtain rfl : args = #[v0, v1] := by cases args; simp_all
  obtain ⟨rfl, rfl⟩ := trodVars_none hV
  obtain ⟨a, l, cap, rfl, hcap, hl, hd⟩ := kR (hval 0 22 v0 rfl rfl) h0
  obtain ⟨a1, rfl, rfl, rfl, ws1⟩ := open_int Tryz.underlying3 (hval 1 3 v1 rfl rfl) h1
  have hT := FW hL hsh
  obtain ⟨_, hwl⟩ := aR hk hd
  have hlen := parts_bulk4 hk hd
  have hw := Rnd.raw_law (w := W) a cap a1 hcap hl (by omega) hwl hT
  refine hw.mono fun e W' ⟨he, hb⟩ => ?_
  subst he
  exact ⟨_, rfl, AV (s := Rows.renderRawSpec) (b4 := 4) NW (by kernel_rfl) rfl rfl Tryz.underlying4 ⟨rfl, rfl, rfl⟩ hW' hb⟩
theorem said : Rows.RenderRawUptoSaid :=
  OpenClaim.holds_of_cond 5 Tryz.f5 rfl rfl rfl rfl rfl rfl rfl ⟨rfl, rfl, rfl, rfl, rfl⟩ rfl rfl rfl rfl rfl (by kernel_rfl) Tryz.func5 (by kernel_rfl)
    (of_decide_eq_true (by kernel_rfl)) (by unfold Func.isWrapper; first | (rw [if_pos (by decide +kernel)]; kernel_rfl) | (rw [if_neg (by decide +kernel)]; exact ⟨rfl, rfl⟩))
    (fun os started H enc _ F0 => by rw [OpenClaim.pre_eq_preRow]; exact lifted os started H enc F0)
theorem holds : Rows.RenderRawUptoCardSaid :=
  Claim7.holds_tied_plain_at .later [] [.data, .pinned] true (true, "dbb6135d3520b8c436783097ee2b2ca4e7676026b621e360bb8ca8fbf32d22f8") true
    said (fun _ h => by cases h) (by kernel_rfl) (fun _ h => by cases h) renderRawUpto_row_tie rfl ⟨rfl, rfl⟩ (by kernel_rfl) rfl
    (fun f fn hf hfn => by
      obtain rfl : f = 5 := Option.some.inj ((show Tryz.prog.funcNamed Tryz.f5.name = some 5 by kernel_rfl).symm.trans hf) |>.symm
      obtain rfl : fn = Tryz.f5 := (Option.some.inj (Tryz.func5.symm.trans hfn)).symm
      exact ⟨by kernel_rfl, fun j t ht => by
        rw [Tryz.params5] at ht
        have h3 : t = 22 ∨ t = 3 := by
          rcases j with _ | _ | j
          · exact .inl (by simpa using ht.symm)
          · exact .inr (by simpa using ht.symm)
          · simp at ht
        rcases h3 with rfl | rfl
        · exact (show Tryz.prog.wantsStandIn 22 = false by kernel_rfl)
        · exact (show Tryz.prog.wantsStandIn 3 = false by kernel_rfl)⟩)
    (by kernel_rfl)
#print axioms holds
end renderRaw
end Go.Proofs.YtfmpphplbdojbaaGreatDoor
