/- GuardPuts: for every input of the row the law answers true, and each argument reads afterwards as it read before. Conditions: none. -/
import Derived.Test.YtgmkokophcmbnaaG
import Derived.Test.YtgmkokophcmbnaaXD
namespace Go.Proofs.Ytgmkokophcmbnaa
open Go.ChangeShapes Go.WideShapes Go.ChangeAt Go.RowKit Go.WideMaps Go.Joins Go.Deep
open Go.ChangeMaps (open_string)
namespace guardPuts

theorem own : ownKnob Try.prog.godebug = none := by kernel_rfl
theorem laidOut : laidOutB Try.prog = true := by kernel_rfl

set_option maxRecDepth 100000 in
theorem lifted (os : Os) (started : os.Started) (H : Type) (enc : TypeId × Value → H) :
    ReturnsInHanded {} Try.checked os 4 .any (Rows.guardPutsSpec.pre6 enc Try.prog Try.f4 Rows.guardPutsRow.domain false) (Rows.guardPutsSpec.post enc Try.prog Try.f4 false true false false) := by
  refine returnsInHanded_of_change_shaped (C := Try.checked) own started (by kernel_rfl) Try.func4
    (ChangeSpec.witness6 (enc := enc) (C := Try.checked) false ⟨#[], #[.slice none 0 0, .slice none 0 0], []⟩ 8 (by kernel_rfl) (by kernel_rfl) (by kernel_rfl) (by kernel_rfl)) ?_
  intro W base args ds gs before hval0 hW hcnd hsz hsh _
  have hval : ∀ (j : Nat) t v, Try.f4.params[j]? = some t → args[j]? = some v → Value.okWide Try.prog W .any base t v := hval0
  have hW' := hW
  obtain ⟨p, q, hA0, hV, rfl, hfz, hnd⟩ := hW
  have hA : DataW.TrodAll enc Try.prog W 0 (fun _ => true) true Try.f4.params.toList args.toList ds p := hA0
  rw [Try.params4] at hA hval hsz
  obtain ⟨v0, vs0, d0, ds0, p0, q0, hargs, rfl, rfl, h0, r0⟩ := trodAll_cons hA
  obtain ⟨v1, vs1, d1, ds1, p1, q1, rfl, rfl, rfl, h1, r1⟩ := trodAll_cons r0
  obtain ⟨rfl, rfl, rfl⟩ := trodAll_nil r1
  obtain rfl : args = #[v0, v1] := by cases args; simp_all
  obtain ⟨rfl, rfl⟩ := trodVars_none hV
  obtain ⟨m, hm⟩ := Try.laysM219.s1_3 W hsh
  have hm : W.cell? ⟨0, 0, none⟩ = some (.int .i64 m) := hm
  obtain ⟨a, l, cap, rfl, hl, hd⟩ := open_parts (hval 0 27 v0 rfl rfl) h0
  obtain ⟨fa, fr, fcap, rfl, hf⟩ := open_nums (hval 1 28 v1 rfl rfl) h1
  have hw := words_reach (j := 0) hsz rfl rfl hd
  refine (puts_walk a fa cap fcap l fr m W hw hl hf hm).mono fun e W' ⟨he, hb⟩ => ?_
  subst he
  exact ⟨_, rfl, law_post (b4 := 4) laidOut (by kernel_rfl) rfl rfl Try.underlying4 ⟨rfl, rfl, rfl⟩ hW' hb⟩

theorem holds : Rows.GuardPutsSaid :=
  OpenClaim.holds_of_wide 4 Try.f4 rfl rfl rfl rfl rfl rfl rfl ⟨rfl, rfl, rfl, rfl, rfl⟩ rfl rfl rfl rfl rfl (by kernel_rfl) Try.func4 (by kernel_rfl)
    (of_decide_eq_true (by kernel_rfl)) (by unfold Func.isWrapper; first | (rw [if_pos (by decide +kernel)]; kernel_rfl) | (rw [if_neg (by decide +kernel)]; exact ⟨rfl, rfl⟩))
    (fun os started H enc _ => lifted os started H enc)
#print axioms holds
end guardPuts
end Go.Proofs.Ytgmkokophcmbnaa
