import Derived.Test.YtgmkokophcmbnaaRows
import Derived.Test.YtgmkokophcmbnaaShelf
import Derived.WalkKit
import Derived.WalkSpells
import Derived.WalkLawsBesides
import Derived.Deep.QuietTactic
import Derived.BigQuiet
import Derived.Lib.Hide
namespace Go.Proofs.Ytgmkokophcmbnaa
open Go.RowKit

theorem ret_val {a b : Value} (h : a = b) : Ending.returned a = .returned b := by rw [h]
theorem ret_int {k : IntKind} {a b : Int} (h : a = b) : Ending.returned (.int k a) = .returned (.int k b) := by rw [h]
theorem bthen {w w1 w2 : World} (h : Below w.heap.size w w1) (k : Below w1.heap.size w1 w2) : Below w.heap.size w w2 := h.trans (k.mono h.size)
theorem size_mk (l : List UInt8) : (ByteArray.mk l.toArray).size = l.length := by simp [ByteArray.size]
attribute [simp] ByteArray.extract_mk ByteArray.mk_append_mk

/-- a part of a term -/
structure Pt where
  k : UInt8
  n : Int
  w : List UInt8
def Pt.cells (p : Pt) : List Value := [.int .u8 (p.k.toNat : Int), .int .i64 p.n, .string ⟨p.w.toArray⟩]

def wordsOf : Nat → List UInt8
  | 0 => [32, 124, 124, 32]
  | 1 => [32, 38, 38, 32]
  | 2 => [32, 61, 61, 32, 33, 61, 32, 60, 32, 60, 61, 32, 62, 32, 62, 61, 32]
  | 3 => [32, 43, 32, 45, 32, 124, 32, 94, 32]
  | _ => [32, 42, 32, 47, 32, 37, 32, 60, 60, 32, 62, 62, 32, 38, 32, 38, 94, 32]
def hitB (w : List UInt8) (i : Nat) : Bool := decide (w ≠ []) && !decide (0 ≤ Lib.indexByte w 32) && Lib.contains (wordsOf i) (32 :: (w ++ [32]))
def levB (w : List UInt8) : Nat → Nat → Int
  | 0, _ => 1
  | f + 1, i => if hitB w i then (i : Int) + 1 else levB w f (i + 1)
def levL (k : UInt8) (w : List UInt8) : Int :=
  if (k.toNat : Int) = 36 ∨ (k.toNat : Int) = 35 then 6 else if (k.toNat : Int) = 37 then levB w 5 0 else 7

theorem has_one (l : List UInt8) (w : World) :
    Calls Try.prog 18 #[.string ⟨l.toArray⟩, .string ⟨#[32]⟩] w fun e w' => e = .returned (.bool (decide (0 ≤ Lib.indexByte l 32))) ∧ w = w' :=
  (Try.strings_Contains_one ⟨l.toArray⟩ 32 w).mono fun _ _ ⟨h, h2⟩ => ⟨h, h2.symm⟩
theorem has_any (s l : List UInt8) (m : Int) (w : World) (hs : s.length < 4294967281) (hm : w.cell? ⟨0, 0, none⟩ = some (.int .i64 m)) :
    Calls Try.prog 18 #[.string ⟨s.toArray⟩, .string ⟨l.toArray⟩] w fun e w' => e = .returned (.bool (Lib.contains s l)) ∧ w = w' :=
  (Try.strings_Contains ⟨s.toArray⟩ ⟨l.toArray⟩ m w (by rw [size_mk]; exact hs) hm).mono fun e w' ⟨h, h2⟩ => ⟨h, h2.symm⟩

theorem ix5 (i : Nat) (hi : i < 5) (w : World) : (Instr.index 39 (.agg #[.string ⟨#[32, 124, 124, 32]⟩, .string ⟨#[32, 38, 38, 32]⟩, .string ⟨#[32, 61, 61, 32, 33, 61, 32, 60, 32, 60, 61, 32, 62, 32, 62, 61, 32]⟩, .string ⟨#[32, 43, 32, 45, 32, 124, 32, 94, 32]⟩, .string ⟨#[32, 42, 32, 47, 32, 37, 32, 60, 60, 32, 62, 62, 32, 38, 32, 38, 94, 32]⟩]) (.int .i64 i)).run Try.prog w = .ok (.string ⟨(wordsOf i).toArray⟩) w := by
  rcases (show i = 0 ∨ i = 1 ∨ i = 2 ∨ i = 3 ∨ i = 4 from by omega) with rfl | rfl | rfl | rfl | rfl <;> kernel_rfl
theorem words_len (i : Nat) : (wordsOf i).length < 4294967281 := by
  unfold wordsOf; split <;> decide
theorem lev_step (w : List UInt8) (i : Nat) (h : i < 5) : levB w (5 - i) i = if hitB w i then (i : Int) + 1 else levB w (5 - (i + 1)) (i + 1) := by
  obtain ⟨f, hf⟩ : ∃ f, 5 - i = f + 1 := ⟨4 - i, by omega⟩
  rw [hf, levB, show 5 - (i + 1) = f from by omega]

set_option maxHeartbeats 2000000 in
theorem level_any (p : Pt) (m : Int) (w : World) (hw : p.w.length ≤ 1125899906842624) (hm : w.cell? ⟨0, 0, none⟩ = some (.int .i64 m)) :
    Calls Try.prog 8 #[.agg #[.int .u8 p.k.toNat, .int .i64 p.n, .string ⟨p.w.toArray⟩]] w fun e w' => e = .returned (.int .i64 (levL p.k p.w)) ∧ Below w.heap.size w w' := by
  obtain ⟨k, n, l⟩ := p
  simp only [] at hw
  have hb : Below w.heap.size w (w.alloc (Obj.cells #[.int .u8 k.toNat, .int .i64 n, .string ⟨l.toArray⟩] 23)) := (Below.refl _ _).alloc (Nat.le_refl _) _
  have h0 : 0 < w.heap.size := by
    rcases Nat.eq_zero_or_pos w.heap.size with h | h
    · simp [World.cell?, Array.getElem?_eq_none (show w.heap.size ≤ 0 by omega)] at hm
    · exact h
  have hm1 : (w.alloc (Obj.cells #[.int .u8 k.toNat, .int .i64 n, .string ⟨l.toArray⟩] 23)).cell? ⟨0, 0, none⟩ = some (.int .i64 m) := by
    rw [hb.cell h0]; exact hm
  by_cases h36 : (k.toNat : Int) = 36
  · have b1 : ((k.toNat : Int) == 36) = true := by simp [h36]
    have H := Lib.hid h36
    clear h36
    go_enter Try.func8, Try.ntmps8
    go_wp2_with fail
    go_ret
    exact ⟨ret_int (by unfold levL; rw [if_pos (.inl H.out)]), hb⟩
  have b1 : ((k.toNat : Int) == 36) = false := by simp [h36]
  by_cases h35 : (k.toNat : Int) = 35
  · have b2 : ((k.toNat : Int) == 35) = true := by simp [h35]
    have H := Lib.hid h35
    clear h35
    go_enter Try.func8, Try.ntmps8
    go_wp2_with fail
    go_ret
    exact ⟨ret_int (by unfold levL; rw [if_pos (.inr H.out)]), hb⟩
  have b2 : ((k.toNat : Int) == 35) = false := by simp [h35]
  by_cases h37 : (k.toNat : Int) = 37
  · have b3 : ((k.toNat : Int) == 37) = true := by simp [h37]
    have hfin : levL k l = levB l 5 0 := by unfold levL; rw [if_neg (by omega), if_pos h37]
    have Hfin := Lib.hid hfin
    clear h36 h35 h37 hfin
    go_enter Try.func8, Try.ntmps8
    go_wp2_with fail
    go_loop [13] (fun u => ∃ i : Nat, i ≤ 5 ∧ u = .int .i64 i ∧ levB l (5 - i) i = levB l 5 0) (fun u => 5 - (intOf u).toNat)
    case atStart => exact ⟨0, by omega, rfl, rfl⟩
    case round =>
      obtain ⟨i, hi, rfl, hlv⟩ := hrel
      have HL := Lib.hid hlv
      clear hlv
      by_cases hlt : i < 5
      · have hix := fun w => ix5 i hlt w
        have hst := Lib.hid (lev_step l i hlt)
        have hwl := words_len i
        have hca := fun w hm => has_any (wordsOf i) (32 :: (l ++ [32])) m w hwl hm
        have Hhit : Hid (hitB l i = (decide (l ≠ []) && !decide (0 ≤ Lib.indexByte l 32) && Lib.contains (wordsOf i) (32 :: (l ++ [32])))) := rfl
        have HCA := Lib.hid hca
        generalize Lib.contains (wordsOf i) (32 :: (l ++ [32])) = cc at *
        generalize wordsOf i = ww at *
        clear hca hwl
        by_cases hl : l = []
        · have hf : hitB l i = false := by rw [Hhit.out, hl]; rfl
          have HF := Lib.hid hf
          subst hl
          clear hf
          go_wp2_with fail
          go_round
          case rel => exact ⟨i + 1, by omega, by go_num, by rw [← HL.out, hst.out, HF.out]; rfl⟩
          case measure => simp [intOf]; omega
        · have he : l.isEmpty = false := by simp [hl]
          by_cases hbl : 0 ≤ Lib.indexByte l 32
          · have hf : hitB l i = false := by rw [Hhit.out, decide_eq_true hbl]; simp
            have HF := Lib.hid hf
            clear hf
            go_wp2_with fail
            refine (has_one _ _).mono ?_; rintro e w1 ⟨rfl, rfl⟩
            go_wp2_with fail
            go_round
            case rel => exact ⟨i + 1, by omega, by go_num, by rw [← HL.out, hst.out, HF.out]; rfl⟩
            case measure => simp [intOf]; omega
          · have hf : hitB l i = cc := by rw [Hhit.out, decide_eq_false hbl, decide_eq_true hl]; simp
            have HF := Lib.hid hf
            have hd : decide (0 ≤ Lib.indexByte l 32) = false := decide_eq_false hbl
            clear hf hbl
            go_wp2_with fail
            refine (has_one _ _).mono ?_; rintro e w1 ⟨rfl, rfl⟩
            go_wp2_with fail
            refine (HCA.out _ hm1).mono ?_; rintro e w1 ⟨rfl, rfl⟩
            cases cc
            · go_wp2_with fail
              go_round
              case rel => exact ⟨i + 1, by omega, by go_num, by rw [← HL.out, hst.out, HF.out]; rfl⟩
              case measure => simp [intOf]; omega
            · go_wp2_with fail
              go_ret
              exact ⟨ret_int (by rw [Hfin.out, ← HL.out, hst.out, HF.out]; rfl), hb⟩
      · have : i = 5 := by omega
        subst this
        go_wp2_with fail
        go_ret
        exact ⟨ret_int (by rw [Hfin.out, ← HL.out]; rfl), hb⟩
  · have b3 : ((k.toNat : Int) == 37) = false := by simp [h37]
    have hfin : levL k l = 7 := by unfold levL; rw [if_neg (by omega), if_neg h37]
    have Hfin := Lib.hid hfin
    clear h36 h35 h37 hfin
    go_enter Try.func8, Try.ntmps8
    go_wp2_with fail
    go_ret
    exact ⟨ret_int (by rw [Hfin.out]), hb⟩
end Go.Proofs.Ytgmkokophcmbnaa
