import Derived.Test.YtdebafbhphobcaaW3
namespace Go.Proofs.Ytdebafbhphobcaa
open Go.RowKit

@[simp] theorem get_mk (l : List UInt8) (i : Nat) (h : i < (ByteArray.mk l.toArray).size) : (ByteArray.mk l.toArray)[i]'h = l[i]?.getD 0 := by
  have h' : i < l.length := by simpa [ByteArray.size] using h
  rw [List.getElem?_eq_getElem h']; rfl
attribute [simp] ByteArray.extract_mk
theorem bthen {w w1 w2 : World} (h : Below w.heap.size w w1) (k : Below w1.heap.size w1 w2) : Below w.heap.size w w2 := h.trans (k.mono h.size)
theorem tail_le (b : Int) : ∀ l, tailL b l ≤ l.length
  | [] => by simp [tailL]
  | u :: r => by
    have h1 := tail_le b r
    unfold tailL
    split
    · simp; omega
    · split
      · split
        · rename_i d r'; have h2 := tail_le b r'; split <;> simp; omega
        · simp
      · simp
theorem row_le (b : Int) (l : List UInt8) : rowL b l ≤ l.length := by
  cases l with
  | nil => simp [rowL]
  | cons c r => have := tail_le b r; unfold rowL; simp only [List.length_cons]; split <;> omega
theorem row_nil (b : Int) : rowL b [] = 0 := rfl
theorem row_l (l : List UInt8) (base : Int) (w : World) (hs : l.length ≤ 1125899906842624) (hbase : base ≤ 16) :
    Calls Try.prog 17 #[.string ⟨l.toArray⟩, .int .i64 base] w fun e w' => e = .returned (.int .i64 (rowL base l)) ∧ rowL base l ≤ l.length ∧ Below w.heap.size w w' := by
  have := row_any ⟨l.toArray⟩ base w (by rw [size_mk]; exact hs) hbase
  exact this.mono fun e w' ⟨h, h2⟩ => ⟨by simpa using h, row_le _ _, h2⟩
theorem ixb (l : List UInt8) (c : UInt8) (w : World) :
    Calls Try.prog 39 #[.string ⟨l.toArray⟩, .int .u8 c.toNat] w fun e w' => e = .returned (.int .i64 (Lib.indexByte l c)) ∧ w = w' := by
  have := (Try.strings_IndexByte ⟨l.toArray⟩ c.toNat w).mono (R' := fun e w' => e = .returned (.int .i64 (Lib.indexByte l c)) ∧ w = w') fun e w' ⟨h, h2⟩ => ⟨by simpa using h, h2.symm⟩
  exact this

def signL : List UInt8 → Nat
  | [] => 1
  | d :: _ => if (d.toNat : Int) = 43 ∨ (d.toNat : Int) = 45 then 2 else 1
def powerL (ls l : List UInt8) : Nat :=
  match l with
  | [] => 0
  | c :: r => if Lib.indexByte ls c < 0 then 0 else
      let n := signL r
      if 0 < rowL 10 (l.drop n) then n + rowL 10 (l.drop n) else 0

set_option maxHeartbeats 400000 in
theorem power_any (l ls : List UInt8) (w : World) (hs : l.length ≤ 1125899906842624) :
    Calls Try.prog 37 #[.string ⟨l.toArray⟩, .string ⟨ls.toArray⟩] w fun e w' => e = .returned (.int .i64 (powerL ls l)) ∧ Below w.heap.size w w' := by
  have hb := Below.refl w.heap.size w
  match l, hs with
  | [], hs =>
    go_enter Try.func37, Try.ntmps37
    go_wp2_with fail
    go_ret
    exact ⟨rfl, hb⟩
  | [c], hs =>
    simp only [List.length_cons, List.length_nil] at hs
    go_enter Try.func37, Try.ntmps37
    go_wp2_with (first | (go_at_call 39; refine (ixb _ _ _).mono ?_; rintro e w' ⟨rfl, rfl⟩) | (go_at_call 17; refine (row_l _ _ _ (by simp) (by omega)).mono ?_; rintro e w1 ⟨rfl, hle, hn⟩; (try simp only [List.length_cons] at hle); replace hb := bthen hb hn))
    all_goals go_ret
    all_goals (refine ⟨ret_int ?_, hb⟩; simp only [powerL, signL, List.drop_succ_cons, List.drop_zero, row_nil] at *; (repeat' split) <;> first | omega | (simp_all <;> omega))
  | c :: d :: r, hs =>
    simp only [List.length_cons] at hs
    go_enter Try.func37, Try.ntmps37
    go_wp2_with (first | (go_at_call 39; refine (ixb _ _ _).mono ?_; rintro e w' ⟨rfl, rfl⟩) | (go_at_call 17; refine (row_l _ _ _ (by (try simp); omega) (by omega)).mono ?_; rintro e w1 ⟨rfl, hle, hn⟩; (try simp only [List.length_cons] at hle); replace hb := bthen hb hn))
    all_goals go_ret
    all_goals (refine ⟨ret_int ?_, hb⟩; simp only [powerL, signL, List.drop_succ_cons, List.drop_zero, row_nil] at *; (repeat' split) <;> first | omega | (simp_all <;> omega))
end Go.Proofs.Ytdebafbhphobcaa
