import Derived.Test.YtdebafbhphobcaaW1
namespace Go.Proofs.Ytdebafbhphobcaa
open Go.RowKit

def dg (b : Int) (c : UInt8) : Bool := decide (val c.toNat < b)
def tailL (b : Int) : List UInt8 → Nat
  | [] => 0
  | u :: r => if dg b u then 1 + tailL b r else if u == 95 then (match r with | d :: r' => if dg b d then 2 + tailL b r' else 0 | [] => 0) else 0
def rowL (b : Int) : List UInt8 → Nat
  | [] => 0
  | c :: r => if dg b c then 1 + tailL b r else 0
def cellN (w : World) (a : Addr) : Nat := match w.cell? a with | some (.int _ n) => n.toNat | _ => 0

theorem drop_at (s : ByteArray) (k : Nat) (h : k < s.size) : s.data.toList.drop k = s[k] :: s.data.toList.drop (k + 1) := by
  rw [List.drop_eq_getElem_cons (by simpa using h)]; rfl
theorem dg_us (b : Int) (h : b ≤ 16) : dg b 95 = false := by
  have : val 95 = 99 := by decide
  unfold dg; simp; show b ≤ val 95; omega
theorem row_no (b : Int) (c : UInt8) (r : List UInt8) (h : dg b c = false) : rowL b (c :: r) = 0 := by simp [rowL, h]
theorem row_yes (b : Int) (c : UInt8) (r : List UInt8) (h : dg b c = true) : rowL b (c :: r) = 1 + tailL b r := by simp [rowL, h]
theorem tail_row (b : Int) (r : List UInt8) (h : ∀ u d r', r = u :: d :: r' → u = 95 → dg b d = false) (hb : b ≤ 16) : tailL b r = rowL b r := by
  match r with
  | [] => rfl
  | [u] => by_cases e : u = 95 <;> simp [tailL, rowL, e]
  | u :: d :: r' =>
    by_cases e : u = 95
    · subst e; simp [tailL, rowL, h 95 d r' rfl rfl, dg_us b hb]
    · simp [tailL, rowL, e]
theorem tail_us (b : Int) (d : UInt8) (r' : List UInt8) (h : dg b d = true) (hb : b ≤ 16) : tailL b (95 :: d :: r') = 1 + rowL b (d :: r') := by
  simp [tailL, rowL, h, dg_us b hb]; omega

structure RowAt (B : Nat) (s : ByteArray) (base k : Int) (w : World) : Prop where
  cs : w.heap[B]? = some (.cells #[.string s] 9 (0, 0))
  cb : w.heap[B + 1]? = some (.cells #[.int .i64 base] 3 (0, 0))
  cn : w.heap[B + 1 + 1]? = some (.cells #[.int .i64 k] 3 (0, 0))
theorem RowAt.drewN {B : Nat} {s : ByteArray} {base k : Int} {w : World} (h : RowAt B s base k w) (n : Nat) : RowAt B s base k (w.drewN n) := ⟨h.cs, h.cb, h.cn⟩
theorem RowAt.set {B : Nat} {s : ByteArray} {base k : Int} {w : World} (h : RowAt B s base k w) (k' : Int) : RowAt B s base k' (w.setCell ⟨B + 1 + 1, 0, none⟩ (.int .i64 k')) :=
  ⟨by rw [Below.heap_setCell _ _ _ _ (by simp; omega)]; exact h.cs, by rw [Below.heap_setCell _ _ _ _ (by simp)]; exact h.cb, one_setCell h.cn⟩
theorem RowAt.num {B : Nat} {s : ByteArray} {base : Int} {k : Nat} {w : World} (h : RowAt B s base k w) : cellN w ⟨B + 1 + 1, 0, none⟩ = k := by
  unfold cellN; rw [cell_of_one h.cn]; simp

theorem RowAt.num' {B : Nat} {s : ByteArray} {base k : Int} {w : World} (h : RowAt B s base k w) : cellN w ⟨B + 1 + 1, 0, none⟩ = k.toNat := by
  unfold cellN; rw [cell_of_one h.cn]
theorem bdrewN {B : Nat} {a w : World} (h : Below B a w) (n : Nat) : Below B a (w.drewN n) := ⟨h.os, h.tape, h.output, h.size, h.block⟩
theorem heap_new' {w : World} {o : Obj} {k : Nat} (h : w.heap.size = k) : (w.alloc o).heap[k]? = some o := by subst h; exact heap_alloc_new _ _
def Big : Nat := 1125899906842624

set_option maxHeartbeats 1000000 in
theorem row_any (s : ByteArray) (base : Int) (w : World) (hs : s.size ≤ 1125899906842624) (hbase : base ≤ 16) :
    Calls Try.prog 17 #[.string s, .int .i64 base] w fun e w' => e = .returned (.int .i64 (rowL base s.data.toList)) ∧ Below w.heap.size w w' := by
  have hmx : s.size ≤ maxLen := by unfold maxLen; omega
  have hmf : ∀ (fn : Fn) (first cap : Array Value) (w : World), (Instr.makeFunc fn first cap).run Try.prog w = .ok (.func fn first cap) w := fun _ _ _ _ => rfl
  go_enter Try.func17, Try.ntmps17
  go_wp2_with fail
  go_loopw [8] (fun _ wr => ∃ k : Nat, k ≤ s.size ∧ RowAt w.heap.size s base k wr ∧ k + rowL base (s.data.toList.drop k) = rowL base s.data.toList ∧ Below w.heap.size w wr)
    (fun _ wr => s.size - cellN wr ⟨w.heap.size + 1 + 1, 0, none⟩)
  case atStart =>
    refine ⟨0, by omega, ⟨?_, ?_, ?_⟩, by simp, (((Below.refl _ _).alloc (Nat.le_refl _) _).alloc (by simp) _).alloc (by simp; omega) _⟩
    · exact (Below.heap_alloc _ _ _ (by simp; omega)).trans ((Below.heap_alloc _ _ _ (by simp)).trans (heap_alloc_new _ _))
    · exact (Below.heap_alloc _ _ _ (by simp)).trans (heap_new' (by simp))
    · exact heap_new' (by simp)
  case round =>
    obtain ⟨k, hk, hr, hrow, hb⟩ := hrel
    have h0 := cell_of_one hr.cs
    have h1 := cell_of_one hr.cb
    have h2 := cell_of_one hr.cn
    have f2 := free_of_one hr.cn
    have Hr := Lib.hid hrow
    have Hn := Lib.hid hr.num
    clear hrow
    by_cases hlt : k < s.size
    · by_cases hd : val s[k].toNat < base
      · have hdd : decide (val s[k].toNat < base) = true := by simpa using hd
        have Hs := Lib.hid (row_yes base s[k] (s.data.toList.drop (k + 1)) hdd)
        have Hdr := Lib.hid (drop_at s k hlt)
        go_wp2_with (go_at_call 29; refine (digit_in s k base _ _ _ _ hlt hmx h2 h0 h1).mono ?_; rintro e w' ⟨rfl, nq, rfl⟩)
        have hr2 := (hr.drewN nq).set (k + 1)
        have hb2 := (bdrewN hb nq).setCell (p := ⟨w.heap.size + 1 + 1, 0, none⟩) (by show w.heap.size ≤ w.heap.size + 1 + 1; omega) (.int .i64 (k + 1))
        generalize (wr.drewN nq).setCell ⟨w.heap.size + 1 + 1, 0, none⟩ (.int .i64 (k + 1)) = wx at *
        clear h0 h1 h2 f2 hr hb
        have h0 := cell_of_one hr2.cs
        have h1 := cell_of_one hr2.cb
        have h2 := cell_of_one hr2.cn
        have f2 := free_of_one hr2.cn
        have hnum : cellN wx ⟨w.heap.size + 1 + 1, 0, none⟩ = k + 1 := RowAt.num (k := k + 1) hr2
        have Hnum := Lib.hid hnum
        clear hnum
        have w1 : IntKind.i64.wrap ((k : Int) + 1) = k + 1 := IntWalk.i64_in _ (by omega)
        have w2 : IntKind.i64.wrap ((k : Int) + 1 + 1) = k + 1 + 1 := IntWalk.i64_in _ (by omega)
        by_cases h22 : k + 2 < s.size
        · have t1 : decide ((k : Int) + 1 + 1 < s.size) = true := by simp; omega
          have i1 : ((k : Int) + 1).toNat = k + 1 := by omega
          have i2 : ((k : Int) + 1 + 1).toNat = k + 2 := by omega
          have b0 : 0 ≤ (k : Int) + 1 := by omega
          have b1 : (k : Int) + 1 < s.size := by omega
          have c0 : 0 ≤ (k : Int) + 1 + 1 := by omega
          have c1 : (k : Int) + 1 + 1 < s.size := by omega
          have Hdr2 := Lib.hid (drop_at s (k + 1) (by omega))
          have Hdr3 := Lib.hid (drop_at s (k + 2) (by omega))
          by_cases hu : s[k + 1] = 95
          · have hu' : (((s[k+1].toNat : Nat) : Int) == 95) = true := by rw [hu]; rfl
            by_cases hd2 : val s[k + 2].toNat < base
            · have hd2' : decide (val s[k + 2].toNat < base) = true := by simpa using hd2
              go_quiet ((go_at_call 23; exact quiet_same (value_byte _ _)))
              go_wp2_with fail
              have Hfin : Hid ((k + 2 : Nat) + rowL base (s.data.toList.drop (k + 2)) = rowL base s.data.toList) := by
                unfold Hid
                rw [← Hr.out, Hdr.out, Hs.out, Hdr2.out, hu, Hdr3.out, tail_us _ _ _ hd2' hbase]
                omega
              go_roundw
              case rel => exact ⟨k + 2, by omega, (hr2.drewN nq).set _, Hfin.out, (bdrewN hb2 nq).setCell (by show w.heap.size ≤ w.heap.size + 1 + 1; omega) _⟩
              case measure => rw [Hn.out]; show s.size - cellN _ _ < _; rw [RowAt.num' ((hr2.drewN nq).set ((k : Int) + 1 + 1))]; omega
            · have hd2' : decide (val s[k + 2].toNat < base) = false := by simpa using hd2
              go_quiet ((go_at_call 23; exact quiet_same (value_byte _ _)))
              go_wp2_with fail
              have Hfin : Hid ((k + 1 : Nat) + rowL base (s.data.toList.drop (k + 1)) = rowL base s.data.toList) := by
                unfold Hid
                rw [← Hr.out, Hdr.out, Hs.out, tail_row]
                · omega
                · intro u d r' e _; rw [Hdr2.out, Hdr3.out] at e; injection e with _ e; injection e with e _; rw [← e]; exact hd2'
                · exact hbase
              go_roundw
              case rel => exact ⟨k + 1, by omega, hr2.drewN nq, Hfin.out, bdrewN hb2 nq⟩
              case measure => rw [Hn.out]; show s.size - cellN wx _ < _; rw [Hnum.out]; omega
          · have hu' : (((s[k+1].toNat : Nat) : Int) == 95) = false := by
              rw [beq_eq_false_iff_ne]; intro e; exact hu (UInt8.toNat_inj.1 (by show _ = 95; omega))
            go_quiet (fail)
            go_wp2_with fail
            have Hfin : Hid ((k + 1 : Nat) + rowL base (s.data.toList.drop (k + 1)) = rowL base s.data.toList) := by
              unfold Hid
              rw [← Hr.out, Hdr.out, Hs.out, tail_row]
              · omega
              · intro u d r' e e2; rw [Hdr2.out] at e; injection e with e _; exact absurd (e.trans e2) hu
              · exact hbase
            go_roundw
            case rel => exact ⟨k + 1, by omega, hr2.drewN nq, Hfin.out, bdrewN hb2 nq⟩
            case measure => rw [Hn.out]; show s.size - cellN wx _ < _; rw [Hnum.out]; omega
        · have t1 : decide ((k : Int) + 1 + 1 < s.size) = false := by simp; omega
          have Hfin : Hid ((k + 1 : Nat) + rowL base (s.data.toList.drop (k + 1)) = rowL base s.data.toList) := by
            unfold Hid
            rw [← Hr.out, Hdr.out, Hs.out, tail_row]
            · omega
            · intro u d r' e; have := congrArg List.length e; simp at this; omega
            · exact hbase
          go_quiet (fail)
          go_wp2_with fail
          go_roundw
          case rel => exact ⟨k + 1, by omega, hr2.drewN nq, Hfin.out, bdrewN hb2 nq⟩
          case measure => rw [Hn.out]; show s.size - cellN wx _ < _; rw [Hnum.out]; omega
      · have hdd : decide (val s[k].toNat < base) = false := by simpa using hd
        go_wp2_with (go_at_call 29; refine (digit_in s k base _ _ _ _ hlt hmx h2 h0 h1).mono ?_; rintro e w' ⟨rfl, nq, rfl⟩)
        go_ret
        refine ⟨ret_int ?_, hb.os, hb.tape, hb.output, hb.size, hb.block⟩
        rw [← Hr.out, drop_at s k hlt, row_no _ _ _ hdd]; simp
    · go_wp2_with (go_at_call 29; refine (digit_out s k base _ _ _ _ hlt hmx h2 h0 h1).mono ?_; rintro e w' ⟨rfl, nq, rfl⟩)
      go_ret
      refine ⟨ret_int ?_, hb.os, hb.tape, hb.output, hb.size, hb.block⟩
      rw [← Hr.out, List.drop_eq_nil_of_le (by simp; omega)]; simp [rowL]
end Go.Proofs.Ytdebafbhphobcaa
