import Derived.Test.YtdebafbhphobcaaX1
namespace Go.Proofs.Ytdebafbhphobcaa
open Go.RowKit

def partsR (b : Int) (hex : Bool) (A B : List UInt8) : Bool := ((rowR b A || (hex && underR b A)) && (decide (B = []) || rowR b B)) || (decide (A = []) && rowR b B)
def dotI (l : List UInt8) : Nat := runF (fun i => !decide (bat l i = 46)) (l.length - 0) 0
def pointR (b : Int) (hex : Bool) (l : List UInt8) : Bool := decide (dotI l < l.length) && partsR b hex (l.take (dotI l)) (l.drop (dotI l + 1))

set_option maxHeartbeats 2000000 in
theorem rpointed (l : List UInt8) (base : Int) (hex : Bool) (w : World) (hs : l.length ≤ 1125899906842624) (hb0 : 0 ≤ base) (hb : base ≤ 16) :
    Calls Try.prog 33 #[.string ⟨l.toArray⟩, .int .i64 base, .bool hex] w fun e w' => e = .returned (.bool (pointR base hex l)) ∧ w = w' := by
  go_enter Try.func33, Try.ntmps33
  go_wp2_with fail
  go_loop [7] (fun u => ∃ i : Nat, i ≤ l.length ∧ u = .int .i64 i ∧ runF (fun i => !decide (bat l i = 46)) (l.length - i) i = dotI l) (fun u => l.length - (intOf u).toNat)
  case atStart => exact ⟨0, by omega, rfl, rfl⟩
  case round =>
    obtain ⟨i, hi, rfl, hv⟩ := hrel
    have Hv := Lib.hid hv
    clear hv
    by_cases hlt : i < l.length
    · have gi : l[i]?.getD 0 = l[i] := by simp [hlt]
      have Gi := Lib.hid gi
      clear gi
      go_wp2_with (first
        | (go_at_call 20; refine (rrow _ _ _ (by (try simp); omega) hb0 hb).mono ?_; rintro e w1 ⟨rfl, rfl⟩)
        | (go_at_call 30; refine (runder _ _ _ (by (try simp); omega) hb0 hb).mono ?_; rintro e w1 ⟨rfl, rfl⟩))
      all_goals first
        | (go_round
           case rel =>
             have gi := Gi.out
             have hok : (!decide (bat l i = 46)) = true := by simp_all [bat]
             exact ⟨i + 1, by omega, by go_num, by rw [← Hv.out, run_step _ _ _ hok hlt]⟩
           case measure => simp [intOf]; omega)
        | (go_ret
           have gi := Gi.out
           have hok : (!decide (bat l i = 46)) = false := by simp_all [bat]
           have hen : dotI l = i := by rw [← Hv.out, run_stop _ _ _ hok]
           refine ⟨ret_val (congrArg Value.bool ?_), by first | rfl | trivial⟩
           simp only [pointR, partsR, hen]
           first | (simp_all; done) | (simp_all; omega) | (rw [Bool.eq_iff_iff]; simp_all; done) | (rw [Bool.eq_iff_iff]; simp_all; omega))
    · go_wp2_with fail
      go_ret
      have e1 := Hv.out
      rw [show l.length - i = 0 from by omega] at e1
      have e2 : dotI l = i := e1.symm
      exact ⟨ret_val (by simp [pointR, e2]; omega), rfl⟩
end Go.Proofs.Ytdebafbhphobcaa
