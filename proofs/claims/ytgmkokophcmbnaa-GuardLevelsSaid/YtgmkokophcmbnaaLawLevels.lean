/- GuardLevels: for every input of the row the law answers true, and each argument reads afterwards as it read before. Conditions: none. -/
import Derived.Test.YtgmkokophcmbnaaF
import Derived.Test.YtgmkokophcmbnaaX3
namespace Go.Proofs.Ytgmkokophcmbnaa
open Go.ChangeShapes Go.WideShapes Go.ChangeAt Go.RowKit Go.WideMaps Go.Joins Go.Deep
open Go.ChangeMaps (open_string)
namespace guardLevels

theorem own : ownKnob Try.prog.godebug = none := by kernel_rfl
theorem laidOut : laidOutB Try.prog = true := by kernel_rfl

set_option maxRecDepth 100000 in
theorem lifted (os : Os) (started : os.Started) (H : Type) (enc : TypeId × Value → H) :
    ReturnsInHanded {} Try.checked os 3 .any (Rows.guardLevelsSpec.pre6 enc Try.prog Try.f3 Rows.guardLevelsRow.domain false) (Rows.guardLevelsSpec.post enc Try.prog Try.f3 false true false false) := by
  refine returnsInHanded_of_change_shaped (C := Try.checked) own started (by kernel_rfl) Try.func3
    (ChangeSpec.witness6 (enc := enc) (C := Try.checked) false ⟨#[], #[.agg #[.int .u8 0, .int .i64 0, .string ByteArray.empty]], []⟩ 8 (by kernel_rfl) (by kernel_rfl) (by kernel_rfl) (by kernel_rfl)) ?_
  intro W base args ds gs before hval0 hW hcnd hsz hsh _
  have hval : ∀ (j : Nat) t v, Try.f3.params[j]? = some t → args[j]? = some v → Value.okWide Try.prog W .any base t v := hval0
  have hW' := hW
  obtain ⟨p, q, hA0, hV, rfl, hfz, hnd⟩ := hW
  have hA : DataW.TrodAll enc Try.prog W 0 (fun _ => true) true Try.f3.params.toList args.toList ds p := hA0
  rw [Try.params3] at hA hval hsz
  obtain ⟨v0, vs0, d0, ds0, p0, q0, hargs, rfl, rfl, h0, r0⟩ := trodAll_cons hA
  obtain ⟨rfl, rfl, rfl⟩ := trodAll_nil r0
  obtain rfl : args = #[v0] := by cases args; simp_all
  obtain ⟨rfl, rfl⟩ := trodVars_none hV
  obtain ⟨m, hm⟩ := Try.laysM219.s1_3 W hsh
  obtain ⟨x0, x1, x2, y0, y1, y2, n, rfl, hd, hp, t0, t1, t2⟩ := open_agg3 Try.underlying23 (by kernel_rfl) (by kernel_rfl) (hval 0 23 v0 rfl rfl) h0
  have hm : W.cell? ⟨0, 0, none⟩ = some (.int .i64 m) := hm
  obtain ⟨k, hk, rfl, wk⟩ := DataW.trod_int Try.underlying5 t0
  obtain ⟨nn, hn, rfl, _⟩ := DataW.trod_int Try.underlying3 t1
  obtain ⟨s, hs, rfl, _⟩ := DataW.trod_string Try.underlying9 t2
  simp only [List.cons.injEq, and_true] at hk hn hs
  subst hk hn hs hd
  obtain ⟨⟨l⟩⟩ := s
  have hw : l.length ≤ 1125899906842624 := by
    have hsz' : (DataW.weightsEach Try.prog [23] [DataW.agg [.lit (.int .u8 k), .lit (.int .i64 nn), .lit (.string l)]]).all (· ≤ reachBytes) = true := hsz
    have h1 := List.all_eq_true.1 hsz' l.length (DataW.weights_mem_each (P := Try.prog) (j := 0) (t := 23) (d := .agg [.lit (.int .u8 k), .lit (.int .i64 nn), .lit (.string l)]) rfl rfl l.length (by simp [DataW.weights, Try.underlying23, DataW.weightsEach]))
    have h2 : reachBytes = 140737488351232 := rfl
    simp only [h2, decide_eq_true_eq] at h1
    omega
  have hkr : 0 ≤ k ∧ k < 256 := by
    have h1 : IntKind.u8.min = 0 := rfl
    have h2 : IntKind.u8.max = 255 := rfl
    simp only [Lit.wf, Bool.and_eq_true, decide_eq_true_eq] at wk
    omega
  obtain ⟨kn, rfl⟩ := Int.eq_ofNat_of_zero_le hkr.1
  have hkn : ((UInt8.ofNat kn).toNat : Int) = (kn : Int) := by rw [UInt8.toNat_ofNat', Nat.mod_eq_of_lt (by omega)]
  have hwk := levels_walk ⟨UInt8.ofNat kn, nn, l⟩ m W hw hm
  simp only [hkn] at hwk
  refine hwk.mono fun e W' ⟨he, hb⟩ => ?_
  subst he
  exact ⟨_, rfl, law_post (b4 := 4) laidOut (by kernel_rfl) rfl rfl Try.underlying4 ⟨rfl, rfl, rfl⟩ hW' hb⟩

theorem holds : Rows.GuardLevelsSaid :=
  OpenClaim.holds_of_wide 3 Try.f3 rfl rfl rfl rfl rfl rfl rfl ⟨rfl, rfl, rfl, rfl, rfl⟩ rfl rfl rfl rfl rfl (by kernel_rfl) Try.func3 (by kernel_rfl)
    (of_decide_eq_true (by kernel_rfl)) (by unfold Func.isWrapper; first | (rw [if_pos (by decide +kernel)]; kernel_rfl) | (rw [if_neg (by decide +kernel)]; exact ⟨rfl, rfl⟩))
    (fun os started H enc _ => lifted os started H enc)
#print axioms holds
end guardLevels
end Go.Proofs.Ytgmkokophcmbnaa
