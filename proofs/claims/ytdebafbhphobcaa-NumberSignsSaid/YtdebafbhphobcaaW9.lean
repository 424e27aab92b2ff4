import Derived.Test.YtdebafbhphobcaaW7
namespace Go.Proofs.Ytdebafbhphobcaa
open Go.RowKit

def lowD : List UInt8 := [48, 49, 50, 51, 52, 53, 54, 55, 56, 57, 97, 98, 99, 100, 101, 102]
def upD : List UInt8 := [48, 49, 50, 51, 52, 53, 54, 55, 56, 57, 65, 66, 67, 68, 69, 70]
theorem digs : ∀ i : Fin 16, ∀ c : Fin 256, (((lowD[i.val]?.getD 0).toNat == c.val) || ((upD[i.val]?.getD 0).toNat == c.val)) = decide (val c.val = i.val) := by decide +kernel
theorem digs' (i : Nat) (h : i < 16) (c : UInt8) : ((lowD[i]?.getD 0).toNat = c.toNat ∨ (upD[i]?.getD 0).toNat = c.toNat) ↔ val c.toNat = i := by
  have := digs ⟨i, h⟩ ⟨c.toNat, c.toNat_lt⟩
  rw [Bool.eq_iff_iff, Bool.or_eq_true, decide_eq_true_iff, beq_iff_eq, beq_iff_eq] at this
  exact this

set_option maxHeartbeats 1000000 in
theorem rdigit (c : UInt8) (base : Int) (w : World) (hb0 : 0 ≤ base) (hb : base ≤ 16) :
    Calls Try.prog 34 #[.int .u8 c.toNat, .int .i64 base] w fun e w' => e = .returned (.bool (dg base c)) ∧ w = w' := by
  obtain ⟨n, rfl⟩ := Int.eq_ofNat_of_zero_le hb0
  go_enter Try.func34, Try.ntmps34
  go_wp2_with fail
  go_loop [7] (fun u => ∃ i : Nat, i ≤ n ∧ u = .int .i64 i ∧ (i : Int) ≤ val c.toNat) (fun u => n - (intOf u).toNat)
  case atStart => exact ⟨0, by omega, rfl, by unfold val; have := c.toNat_lt; omega⟩
  case round =>
    obtain ⟨i, hi, rfl, hv⟩ := hrel
    by_cases hlt : i < n
    · have h16 : (i : Int) < 16 := by omega
      have H := digs' i (by omega) c
      unfold lowD upD at H
      have HH := Lib.hid H
      clear H
      go_wp2_with fail
      · go_ret; have H := HH.out; exact ⟨ret_val (by simp [dg]; omega), rfl⟩
      · go_ret
        have H := HH.out
        simp only [beq_iff_eq] at *
        exact ⟨ret_val (by simp [dg]; omega), trivial⟩
      · have H := HH.out
        simp only [beq_eq_false_iff_ne] at *
        go_round
        case rel => exact ⟨i + 1, by omega, by go_num, by omega⟩
        case measure => simp [intOf]; omega
    · go_wp2_with fail
      go_ret
      exact ⟨ret_val (by simp [dg]; omega), rfl⟩

def okR (b : Int) (l : List UInt8) (i : Nat) : Bool := (decide (bat l i = 95) && !decide (bat l (i - 1) = 95)) || dg b (l[i]?.getD 0)
def allR (b : Int) (l : List UInt8) (i : Nat) : Bool := (List.range' i (l.length - i)).all (okR b l)
def rowR (b : Int) (l : List UInt8) : Bool :=
  decide (l ≠ []) && dg b (l[0]?.getD 0) && dg b (l[l.length - 1]?.getD 0) && allR b l 0
theorem allR_step (b : Int) (l : List UInt8) (i : Nat) (h : i < l.length) : allR b l i = (okR b l i && allR b l (i + 1)) := by
  unfold allR
  obtain ⟨f, hf⟩ : ∃ f, l.length - i = f + 1 := ⟨l.length - i - 1, by omega⟩
  rw [hf, List.range'_succ, List.all_cons, show l.length - (i + 1) = f from by omega]
theorem allR_end (b : Int) (l : List UInt8) (i : Nat) (h : l.length ≤ i) : allR b l i = true := by
  unfold allR; rw [show l.length - i = 0 from by omega]; rfl

set_option maxHeartbeats 1000000 in
theorem rrow (l : List UInt8) (base : Int) (w : World) (hs : l.length ≤ 1125899906842624) (hb0 : 0 ≤ base) (hb : base ≤ 16) :
    Calls Try.prog 20 #[.string ⟨l.toArray⟩, .int .i64 base] w fun e w' => e = .returned (.bool (rowR base l)) ∧ w = w' := by
  by_cases hl : l = []
  · subst hl
    go_enter Try.func20, Try.ntmps20
    go_wp2_with fail
    all_goals go_ret
    all_goals exact ⟨rfl, rfl⟩
  have h0 : 0 < l.length := List.length_pos_iff.2 hl
  have hz : ((l.length : Int) == 0) = false := by simp; omega
  have g0 : l[0]?.getD 0 = l[0] := by simp [h0]
  have G0 := Lib.hid g0
  clear g0
  by_cases hA1 : dg base l[0] = true
  · by_cases hA2 : dg base (l[l.length - 1]?.getD 0) = true
    · go_enter Try.func20, Try.ntmps20
      go_wp2_with (first | (go_at_call 34; refine (rdigit _ _ _ hb0 hb).mono ?_; rintro e w1 ⟨rfl, rfl⟩))
      go_loop [5] (fun u => ∃ i : Nat, i ≤ l.length ∧ u = .int .i64 i ∧ allR base l i = allR base l 0) (fun u => l.length - (intOf u).toNat)
      case atStart => exact ⟨0, by omega, rfl, rfl⟩
      case round =>
        obtain ⟨i, hi, rfl, hv⟩ := hrel
        have Hv := Lib.hid hv
        clear hv
        by_cases hlt : i < l.length
        · have gi : l[i]?.getD 0 = l[i] := by simp [hlt]
          have Gi := Lib.hid gi
          clear gi
          by_cases h95 : (l[i].toNat : Int) = 95
          · have h1 : 1 ≤ i := by
              rcases Nat.eq_zero_or_pos i with rfl | h
              · exfalso
                have : l[0] = 95 := UInt8.toNat_inj.1 (by show _ = 95; omega)
                rw [this, dg_us base hb] at hA1; cases hA1
              · exact h
            have H95 := Lib.hid h95
            have h95' : ((l[i].toNat : Int) == 95) = true := by simpa using h95
            clear h95
            go_wp2_with (first | (go_at_call 34; refine (rdigit _ _ _ hb0 hb).mono ?_; rintro e w1 ⟨rfl, rfl⟩))
            all_goals have gi := Gi.out
            all_goals have h95 := H95.out
            all_goals first
              | (go_round
                 case rel =>
                   have hok : okR base l i = true := by simp_all [okR, bat]
                   exact ⟨i + 1, by omega, by go_num, by rw [← Hv.out, allR_step _ _ _ hlt, hok]; rfl⟩
                 case measure => simp [intOf]; omega)
              | (go_ret
                 have hok : okR base l i = false := by simp_all [okR, bat]
                 exact ⟨ret_val (by rw [rowR, ← Hv.out, allR_step _ _ _ hlt, hok]; simp), rfl⟩)
          · have h95' : ((l[i].toNat : Int) == 95) = false := by simpa using h95
            have H95 := Lib.hid h95
            clear h95
            go_wp2_with (first | (go_at_call 34; refine (rdigit _ _ _ hb0 hb).mono ?_; rintro e w1 ⟨rfl, rfl⟩))
            all_goals have gi := Gi.out
            all_goals have h95 := H95.out
            all_goals first
              | (go_round
                 case rel =>
                   have hok : okR base l i = true := by simp_all [okR, bat]
                   exact ⟨i + 1, by omega, by go_num, by rw [← Hv.out, allR_step _ _ _ hlt, hok]; rfl⟩
                 case measure => simp [intOf]; omega)
              | (go_ret
                 have hok : okR base l i = false := by simp_all [okR, bat]
                 exact ⟨ret_val (by rw [rowR, ← Hv.out, allR_step _ _ _ hlt, hok]; simp), rfl⟩)
        · go_wp2_with fail
          go_ret
          have e1 := Hv.out
          rw [allR_end _ _ _ (by omega)] at e1
          exact ⟨ret_val (by rw [rowR, G0.out, hA1, hA2, ← e1]; simp [hl]), rfl⟩
    · have hA2' : dg base (l[l.length - 1]?.getD 0) = false := by simpa using hA2
      clear hA2
      go_enter Try.func20, Try.ntmps20
      go_wp2_with (first | (go_at_call 34; refine (rdigit _ _ _ hb0 hb).mono ?_; rintro e w1 ⟨rfl, rfl⟩))
      all_goals go_ret
      all_goals exact ⟨ret_val (by simp [rowR, hA2']), rfl⟩
  · have hA1' : dg base l[0] = false := by simpa using hA1
    clear hA1
    go_enter Try.func20, Try.ntmps20
    go_wp2_with (first | (go_at_call 34; refine (rdigit _ _ _ hb0 hb).mono ?_; rintro e w1 ⟨rfl, rfl⟩))
    all_goals go_ret
    all_goals exact ⟨ret_val (by rw [rowR, G0.out]; simp [hA1']), rfl⟩
end Go.Proofs.Ytdebafbhphobcaa
