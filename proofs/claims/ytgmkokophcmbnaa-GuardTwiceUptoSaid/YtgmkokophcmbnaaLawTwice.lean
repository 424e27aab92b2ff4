/- GuardTwice, the second form: for every input of the row whose reading is of bulk at most 1048576 the law answers true, and each argument reads afterwards as it read before. Conditions: none but that bulk. -/
import Derived.Test.YtgmkokophcmbnaaG
import Derived.Test.YtgmkokophcmbnaaXF
import Derived.JoinedCond
import Derived.SizedLaws
namespace Go.Proofs.Ytgmkokophcmbnaa
open Go.ChangeShapes Go.WideShapes Go.ChangeAt Go.RowKit Go.WideMaps Go.Joins Go.Deep
open Go.ChangeMaps (open_string)

section
variable {H : Type} {enc : TypeId × Value → H}
/-- the wrap for a row with a condition of its own: the reach and the world's shape are handed on -/
theorem returnsInHanded_of_cond_shaped {a : Assume} {C : Checked} {os : Os} {f : FuncId} {fn : Func} {s : OpenSpec} {k : (H : Type) → List (DataW H) → Bool} (hk : s.cond = some k) {F : Stop.Interp} {conds : List PathCond} {apart fresh handsOn again : Bool}
    (own : ownKnob C.prog.godebug = none) (started : os.Started) (noInit : C.prog.inits.idxOf? f = none) (hfn : C.prog.funcs[f]? = some fn)
    (witness : ∃ (w : World) (tape : Tape) (i : Input), w.os = os ∧ (w.forCall tape i).Shaped C.prog ∧ i.vars = [] ∧ Input.okWide C.prog (w.forCall tape i) .any w.heap.size f i ∧
      s.pre6 enc C.prog fn conds apart (w.forCall tape i).memory i.args ∧ a.holds C.prog (lone (Frame.enter C.prog f i.args .normal) [] (w.forCall tape i)))
    (contract : ∀ (W : World) (base : Nat) (args : Array Value) (ds gs : List (DataW H)) (before : List MemPlace),
      (∀ (j : Nat) t v, fn.params[j]? = some t → args[j]? = some v → Value.okWide C.prog W .any base t v) →
      DataW.Whole enc C.prog fn.params.toList s.vars apart W args.toList ds gs before →
      k H (ds ++ gs) = true →
      (DataW.weightsEach C.prog (fn.params.toList ++ s.bare.plain.varTypes C.prog) (ds ++ gs)).all (· ≤ reachBytes) = true →
      W.ShapedOpen C.prog →
      Calls C.prog f args W fun e W' => ∃ v, e = .returned v ∧ (s.at F).post enc C.prog fn apart fresh handsOn again W args v W') :
    ReturnsInHanded a C os f .any (s.pre6 enc C.prog fn conds apart) ((s.at F).post enc C.prog fn apart fresh handsOn again) := by
  refine returnsInHanded_of_calls own started noInit witness ?_
  intro w tape i _ hsh _ hok hpre _
  obtain ⟨_, _, _, fn', hfn', _, _, _, _, hval⟩ := hok
  have e : fn' = fn := Option.some.inj (hfn'.symm.trans hfn)
  subst e
  obtain ⟨ds, gs, before, hw, hc, hkk⟩ := (OpenSpec.pre_some hk conds apart _ _).1 hpre.1
  have hw' := DataW.Whole.of_heap (w' := w.forCall tape i) (by rfl) hw
  refine (contract (w.forCall tape i) w.heap.size i.args ds gs before hval hw' hkk (hpre.2.weights hw) hsh).mono fun e W' ⟨v, he, hp⟩ => ?_
  subst he
  exact ChangeSpec.post_blind hp
end
/-- so many values at the most -/
theorem bulk_len {H : Type} : ∀ l : List (DataW H), l.length ≤ Rows.uptoBulkAll l
  | [] => by simp
  | d :: r => by
    have h1 := bulk_len r
    have h2 : 1 ≤ Rows.uptoBulk d := by
      cases d with
      | lit l => cases l <;> simp [Rows.uptoBulk]
      | nil => simp [Rows.uptoBulk]
      | ptr d => simp [Rows.uptoBulk]
      | slice elems spare => simp [Rows.uptoBulk]
      | agg parts => simp [Rows.uptoBulk]
      | iface t d => simp [Rows.uptoBulk]
      | map entries => simp [Rows.uptoBulk]
      | held h => simp [Rows.uptoBulk]
    simp only [Rows.uptoBulkAll, List.length_cons]; omega
theorem parts_upto {H : Type} {l : List Pt} {d : DataW H} (hk : Rows.uptoSmall H ([d] ++ []) = true) (hl : l ≠ [] → ∃ s, d = .slice (l.map (ptD H)) s) : l.length ≤ 1048576 := by
  by_cases h0 : l = []
  · rw [h0]; simp
  · obtain ⟨s, rfl⟩ := hl h0
    have h : Rows.uptoBulkAll [DataW.slice (l.map (ptD H)) s] ≤ 1048576 := of_decide_eq_true hk
    have h1 := bulk_len (l.map (ptD H))
    simp only [Rows.uptoBulkAll, Rows.uptoBulk, List.length_map] at h h1
    omega
namespace guardTwice

theorem own : ownKnob Try.prog.godebug = none := by kernel_rfl
theorem laidOut : laidOutB Try.prog = true := by kernel_rfl

theorem contract (H : Type) (enc : TypeId × Value → H) (W : World) (base : Nat) (args : Array Value) (ds gs : List (DataW H)) (before : List MemPlace)
    (hval0 : ∀ (j : Nat) t v, Try.f5.params[j]? = some t → args[j]? = some v → Value.okWide Try.prog W .any base t v)
    (hW : DataW.Whole enc Try.prog Try.f5.params.toList Rows.guardTwiceSpec.vars false W args.toList ds gs before) (hk : Rows.uptoSmall H (ds ++ gs) = true)
    (hsz : (DataW.weightsEach Try.prog (Try.f5.params.toList ++ []) (ds ++ gs)).all (· ≤ reachBytes) = true) (hsh : W.ShapedOpen Try.prog) :
    Calls Try.prog 5 args W fun e W' => ∃ v, e = .returned v ∧ Rows.guardTwiceSpec.post enc Try.prog Try.f5 false true false false W args v W' := by
  have hval : ∀ (j : Nat) t v, Try.f5.params[j]? = some t → args[j]? = some v → Value.okWide Try.prog W .any base t v := hval0
  have hW' := hW
  obtain ⟨p, q, hA0, hV, rfl, hfz, hnd⟩ := hW
  have hA : DataW.TrodAll enc Try.prog W 0 (fun _ => true) true Try.f5.params.toList args.toList ds p := hA0
  rw [Try.params5] at hA hval hsz
  obtain ⟨v0, vs0, d0, ds0, p0, q0, hargs, rfl, rfl, h0, r0⟩ := trodAll_cons hA
  obtain ⟨rfl, rfl, rfl⟩ := trodAll_nil r0
  obtain rfl : args = #[v0] := by cases args; simp_all
  obtain ⟨rfl, rfl⟩ := trodVars_none hV
  obtain ⟨m, hm⟩ := Try.laysM219.s1_3 W hsh
  have hm : W.cell? ⟨0, 0, none⟩ = some (.int .i64 m) := hm
  obtain ⟨a, l, cap, rfl, hl, hd⟩ := open_parts (hval 0 27 v0 rfl rfl) h0
  have hw := words_reach (j := 0) hsz rfl rfl hd
  have hlen := parts_upto hk hd
  refine (twice_walk a cap l m W hlen hw hl hm).mono fun e W' ⟨he, hb⟩ => ?_
  subst he
  exact ⟨_, rfl, law_post (b4 := 4) laidOut (by kernel_rfl) rfl rfl Try.underlying4 ⟨rfl, rfl, rfl⟩ hW' hb⟩

set_option maxRecDepth 100000 in
theorem lifted (os : Os) (started : os.Started) (H : Type) (enc : TypeId × Value → H) (F : Stop.Interp) :
    ReturnsInHanded {} Try.checked os 5 .any ((Rows.OpenSpec.upto Rows.guardTwiceSpec).pre6 enc Try.prog Try.f5 Rows.guardTwiceUptoRow.domain false) (((Rows.OpenSpec.upto Rows.guardTwiceSpec).at F).post enc Try.prog Try.f5 false true false false) := by
  refine returnsInHanded_of_cond_shaped (C := Try.checked) (s := Rows.OpenSpec.upto Rows.guardTwiceSpec) (k := Rows.uptoSmall) rfl own started (by kernel_rfl) Try.func5
    (OpenSpec.witness (enc := enc) (C := Try.checked) (s := Rows.OpenSpec.upto Rows.guardTwiceSpec) (k := Rows.uptoSmall) rfl false ⟨#[], #[.slice none 0 0], []⟩ 8 (by kernel_rfl) (by kernel_rfl) (by kernel_rfl)
      (x := ([.nil], [], [])) (by kernel_rfl) rfl (by kernel_rfl)) ?_
  intro W base args ds gs before hval hW hk hsz hsh
  exact contract H enc W base args ds gs before hval hW hk hsz hsh

theorem holds : Rows.GuardTwiceUptoSaid :=
  OpenClaim.holds_of_cond 5 Try.f5 rfl rfl rfl rfl rfl rfl rfl ⟨rfl, rfl, rfl, rfl, rfl⟩ rfl rfl rfl rfl rfl (by kernel_rfl) Try.func5 (by kernel_rfl)
    (of_decide_eq_true (by kernel_rfl)) (by unfold Func.isWrapper; first | (rw [if_pos (by decide +kernel)]; kernel_rfl) | (rw [if_neg (by decide +kernel)]; exact ⟨rfl, rfl⟩))
    (fun os started H enc _ F => lifted os started H enc F)
#print axioms holds
end guardTwice
end Go.Proofs.Ytgmkokophcmbnaa
