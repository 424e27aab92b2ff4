import Derived.Test.YtdebafbhphobcaaRows
import Derived.WalkKit
import Derived.WalkSpells
import Derived.WalkLawsBesides
import Derived.Deep.QuietTactic
import Derived.BigQuiet
import Derived.Lib.Hide
namespace Go.Proofs.Ytdebafbhphobcaa
open Go.RowKit

def val (n : Int) : Int :=
  if 48 ≤ n ∧ n ≤ 57 then n - 48 else if 97 ≤ n ∧ n ≤ 102 then n - 97 + 10 else if 65 ≤ n ∧ n ≤ 70 then n - 65 + 10 else 99

theorem ret_int {k : IntKind} {a b : Int} (h : a = b) : Ending.returned (.int k a) = .returned (.int k b) := by rw [h]

set_option maxHeartbeats 400000 in
theorem value_any (n : Int) (h : 0 ≤ n) (h2 : n ≤ 255) (w : World) :
    Calls Try.prog 23 #[.int .u8 n] w fun e w' => e = .returned (.int .i64 (val n)) ∧ w = w' := by
  go_enter Try.func23, Try.ntmps23
  go_wp2
  all_goals (go_ret; exact ⟨ret_int (by unfold val; omega), rfl⟩)

theorem quiet_same {P : Program} {f : FuncId} {args : Array Value} {w : World} {n : Nat} {v : Value}
    (h : Calls P f args (w.drewN n) fun e w' => e = .returned v ∧ w.drewN n = w') : Calls P f args (w.drewN n) fun e w'' => e = .returned v ∧ ∃ m, w'' = w.drewN m :=
  h.mono fun _ _ ⟨he, hm⟩ => ⟨he, n, hm.symm⟩
theorem value_byte (b : UInt8) (w : World) : Calls Try.prog 23 #[.int .u8 b.toNat] w fun e w' => e = .returned (.int .i64 (val b.toNat)) ∧ w = w' :=
  value_any _ (by omega) (by have := b.toNat_lt; omega) w

set_option maxHeartbeats 400000 in
theorem digit_out (s : ByteArray) (k : Nat) (base : Int) (pn ps pb : Addr) (w : World) (hk : ¬ k < s.size) (hs : s.size ≤ maxLen)
    (hn : w.cell? pn = some (.int .i64 k)) (hps : w.cell? ps = some (.string s)) (hpb : w.cell? pb = some (.int .i64 base)) :
    Calls Try.prog 29 #[.pointer (some pn), .pointer (some ps), .pointer (some pb)] w fun e w' => e = .returned (.bool false) ∧ ∃ n, w' = w.drewN n := by
  have hd : decide (k < s.size) = false := by simpa using hk
  go_enter Try.func29, Try.ntmps29
  go_wp2_with fail
  go_quiet (fail)
  go_wp2_with fail
  go_ret
  exact ⟨rfl, nq, rfl⟩

set_option maxHeartbeats 400000 in
theorem digit_in (s : ByteArray) (k : Nat) (base : Int) (pn ps pb : Addr) (w : World) (hk : k < s.size) (hs : s.size ≤ maxLen)
    (hn : w.cell? pn = some (.int .i64 k)) (hps : w.cell? ps = some (.string s)) (hpb : w.cell? pb = some (.int .i64 base)) :
    Calls Try.prog 29 #[.pointer (some pn), .pointer (some ps), .pointer (some pb)] w fun e w' => e = .returned (.bool (decide (val s[k].toNat < base))) ∧ ∃ n, w' = w.drewN n := by
  have hd : decide (k < s.size) = true := by simpa using hk
  go_enter Try.func29, Try.ntmps29
  go_wp2_with fail
  go_quiet ((go_at_call 23; exact quiet_same (value_byte _ _)))
  go_wp2_with fail
  go_ret
  exact ⟨rfl, nq, rfl⟩
end Go.Proofs.Ytdebafbhphobcaa
