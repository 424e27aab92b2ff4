import Derived.Test.YtdebafbhphobcaaP8
namespace Go.Proofs.Ytdebafbhphobcaa
open Go.RowKit

set_option maxHeartbeats 1000000 in
theorem under_walk (l : List UInt8) (w : World) (hs : l.length ≤ 140737488351232) :
    Calls Try.prog 5 #[.string ⟨l.toArray⟩] w fun e w' => e = .returned (.bool true) ∧ Below w.heap.size w w' := by
  have hb := Below.refl w.heap.size w
  have hlen := wo_len 95 l
  by_cases h : kindR l = 0
  · have h' : (kindR l == 0) = true := by simp [h]
    have H := Lib.hid h
    clear h
    go_enter Try.func5, Try.ntmps5
    go_wp2_with (first
      | (go_at_call 9; refine (fixed_any _).mono ?_; rintro e w1 ⟨rfl, hn⟩; replace hb := bthen hb hn)
      | (go_at_call 10; refine (kind_r _ _ (by omega)).mono ?_; rintro e w1 ⟨rfl, hn⟩; replace hb := bthen hb hn))
    all_goals go_ret
    all_goals exact ⟨by simp, hb⟩
  · have h' : (kindR l == 0) = false := by simp [h]
    have hu := under_law l h
    have H := Lib.hid h
    have HU := Lib.hid hu
    clear h hu
    have hc : ∀ w : World, Calls Try.prog 10 #[.string ⟨(wo 95 l).toArray⟩] w fun e w' => e = .returned (.int .u8 (kindR l)) ∧ Below w.heap.size w w' := fun w => by
      have := kind_r (wo 95 l) w (by omega)
      rw [HU.out] at this; exact this
    have HC := Lib.hid hc
    clear hc
    go_enter Try.func5, Try.ntmps5
    go_wp2_with fail
    refine (kind_r _ _ (by omega)).mono ?_; rintro e w1 ⟨rfl, hn⟩; replace hb := bthen hb hn
    go_wp2_with fail
    refine (fixed_any _).mono ?_; rintro e w2 ⟨rfl, hn⟩; replace hb := bthen hb hn
    go_wp2_with fail
    refine (without_any _ 95 _ hs).mono ?_; rintro e w3 ⟨rfl, hn⟩; replace hb := bthen hb hn
    go_wp2_with fail
    refine (HC.out _).mono ?_; rintro e w4 ⟨rfl, hn⟩; replace hb := bthen hb hn
    go_wp2_with fail
    all_goals go_ret
    all_goals exact ⟨by simp, hb⟩

set_option maxHeartbeats 1000000 in
theorem imag_walk (l : List UInt8) (w : World) (hs : l.length ≤ 140737488351232) :
    Calls Try.prog 6 #[.string ⟨l.toArray⟩] w fun e w' => e = .returned (.bool true) ∧ Below w.heap.size w w' := by
  have hb := Below.refl w.heap.size w
  obtain ⟨a1, a2, a3, a4⟩ := imag_law l
  have hk : ∀ k : Int, kindR l = k → ∀ w : World, Calls Try.prog 10 #[.string ⟨l.toArray⟩] w fun e w' => e = .returned (.int .u8 k) ∧ Below w.heap.size w w' := fun k e w => by
    have := kind_r l w (by omega)
    rw [e] at this; exact this
  have hi : ∀ k : Int, kindR (l ++ [105]) = k → ∀ w : World, Calls Try.prog 10 #[.string ⟨(l ++ [105]).toArray⟩] w fun e w' => e = .returned (.int .u8 k) ∧ Below w.heap.size w w' := fun k e w => by
    have := kind_r (l ++ [105]) w (by simp; omega)
    rw [e] at this; exact this
  have main : ∀ k i : Int, kindR l = k → kindR (l ++ [105]) = i → ((k = 3 ∨ k = 4) ∧ i = 5) ∨ (k = 5 ∧ i = 0) ∨ (k = 0 ∧ i = 0) ∨ (k = 0 ∧ i = 5) → Calls Try.prog 6 #[.string ⟨l.toArray⟩] w fun e w' => e = .returned (.bool true) ∧ Below w.heap.size w w' := by
    intro k i h1 h2 hc
    have HK := Lib.hid (hk k h1)
    have HI := Lib.hid (hi i h2)
    clear hk hi a1 a2 a3 a4 h1 h2
    rcases hc with ⟨rfl | rfl, rfl⟩ | ⟨rfl, rfl⟩ | ⟨rfl, rfl⟩ | ⟨rfl, rfl⟩
    all_goals
      go_enter Try.func6, Try.ntmps6
      go_wp2_with fail
      refine (HK.out _).mono ?_; rintro e w1 ⟨rfl, hn⟩; replace hb := bthen hb hn
      go_wp2_with fail
      refine (HI.out _).mono ?_; rintro e w1 ⟨rfl, hn⟩; replace hb := bthen hb hn
      go_wp2_with fail
      refine (fixed_any _).mono ?_; rintro e w2 ⟨rfl, hn⟩; replace hb := bthen hb hn
      go_wp2_with fail
      all_goals go_ret
      all_goals exact ⟨by simp, hb⟩
  refine main _ _ rfl rfl ?_
  omega

set_option maxHeartbeats 2000000 in
theorem whole_walk (l p : List UInt8) (a : Int) (w : World) (hs : l.length ≤ 140737488351232) (hp : p.length ≤ 140737488351232) :
    Calls Try.prog 7 #[.string ⟨l.toArray⟩, .string ⟨p.toArray⟩, .int .i64 a] w fun e w' => e = .returned (.bool true) ∧ Below w.heap.size w w' := by
  have hb := Below.refl w.heap.size w
  have hsc := fun w : World => scan_all l a w (by omega)
  rcases scan_found l a with h | h | ⟨k, to, rfl, hk, hto, hne, h⟩
  · rw [h] at hsc
    have HS := Lib.hid hsc
    clear hsc
    go_enter Try.func7, Try.ntmps7
    go_wp2_with fail
    refine (show Calls _ _ _ _ (fun e w' => e = .returned (.tuple #[.int .u8 0, .int .i64 0, .int .i64 15]) ∧ Below _ _ w') from HS.out _).mono ?_; rintro e w1 ⟨rfl, hn⟩; replace hb := bthen hb hn
    go_wp2_with (go_at_call 9; refine (fixed_any _).mono ?_; rintro e w1 ⟨rfl, hn⟩; replace hb := bthen hb hn)
    all_goals go_ret
    all_goals exact ⟨by simp, hb⟩
  · rw [h] at hsc
    have HS := Lib.hid hsc
    clear hsc
    go_enter Try.func7, Try.ntmps7
    go_wp2_with fail
    refine (show Calls _ _ _ _ (fun e w' => e = .returned (.tuple #[.int .u8 0, .int .i64 0, .int .i64 4]) ∧ Below _ _ w') from HS.out _).mono ?_; rintro e w1 ⟨rfl, hn⟩; replace hb := bthen hb hn
    go_wp2_with (go_at_call 9; refine (fixed_any _).mono ?_; rintro e w1 ⟨rfl, hn⟩; replace hb := bthen hb hn)
    all_goals go_ret
    all_goals exact ⟨by simp, hb⟩
  · rw [h] at hsc
    have hm := scan_whole (p ++ [32]) ((l.drop k).take (to - k)) 32 [] hne (by decide)
    have hml : ((l.drop k).take (to - k)).length = to - k := by rw [List.length_take, List.length_drop]; omega
    have hkk := fun w : World => kind_r ((l.drop k).take (to - k)) w (by omega)
    rw [hml] at hm
    generalize hmm : (l.drop k).take (to - k) = m at *
    have HM := Lib.hid hmm
    generalize hK : kindR m = K at *
    have hs2 : ∀ w : World, Calls Try.prog 12 #[.string ⟨(p ++ 32 :: (m ++ [32])).toArray⟩, .int .i64 ((p.length : Int) + 1)] w fun e w' => e = .returned (.tuple #[.int .u8 K, .int .i64 ((p.length : Int) + 1 + to - k), .int .i64 0]) ∧ Below w.heap.size w w' := fun w => by
      have h1 := scan_all ((p ++ [32]) ++ (m ++ [32])) ((p ++ [32]).length : Int) w (by simp; omega)
      rw [hm] at h1
      have e1 : (p ++ [32]) ++ (m ++ [32]) = p ++ 32 :: (m ++ [32]) := by simp
      have e2 : (((p ++ [32]).length : Nat) : Int) = (p.length : Int) + 1 := by simp
      have e3 : (((p ++ [32]).length + (to - k) : Nat) : Int) = (p.length : Int) + 1 + to - k := by simp; omega
      rw [e1, e2, e3] at h1; exact h1
    have HS := Lib.hid hsc
    have HS2 := Lib.hid hs2
    have HKK := Lib.hid hkk
    have HL := Lib.hid hml
    clear hsc hs2 hm h hne hkk hK hml hmm
    go_enter Try.func7, Try.ntmps7
    go_wp2_with fail
    refine (show Calls _ _ _ _ (fun e w' => e = .returned (.tuple #[.int .u8 K, .int .i64 to, .int .i64 0]) ∧ Below _ _ w') from HS.out _).mono ?_; rintro e w1 ⟨rfl, hn⟩; replace hb := bthen hb hn
    go_wp2_with fail
    refine (fixed_any _).mono ?_; rintro e w2 ⟨rfl, hn⟩; replace hb := bthen hb hn
    go_wp2_with fail
    rw [HM.out]
    refine (HKK.out _).mono ?_; rintro e w3 ⟨rfl, hn⟩; replace hb := bthen hb hn
    go_wp2_with fail
    rw [HM.out]
    refine (HS2.out _).mono ?_; rintro e w4 ⟨rfl, hn⟩; replace hb := bthen hb hn
    go_wp2_with fail
    all_goals go_ret
    all_goals exact ⟨by simp, hb⟩

def ends7 : List (List UInt8) := [[43], [45], [59], [41], [32], [42], [195, 169]]
theorem ends_al (i : Fin 7) : ∃ c r, ends7[i.val]?.getD [] = c :: r ∧ alR ((c : UInt8).toNat : Int) = false := by
  match i with
  | 0 => exact ⟨43, [], rfl, by decide⟩
  | 1 => exact ⟨45, [], rfl, by decide⟩
  | 2 => exact ⟨59, [], rfl, by decide⟩
  | 3 => exact ⟨41, [], rfl, by decide⟩
  | 4 => exact ⟨32, [], rfl, by decide⟩
  | 5 => exact ⟨42, [], rfl, by decide⟩
  | 6 => exact ⟨195, [169], rfl, by decide⟩
theorem ends_len : ∀ i, i < 7 → (ends7[i]?.getD []).length ≤ 2 := by decide
set_option maxHeartbeats 2000000 in
theorem signs_walk (l : List UInt8) (w : World) (hs : l.length ≤ 140737488351232) :
    Calls Try.prog 8 #[.string ⟨l.toArray⟩] w fun e w' => e = .returned (.bool true) ∧ Below w.heap.size w w' := by
  have hb := Below.refl w.heap.size w
  have hkk := fun w : World => kind_r l w (by omega)
  have HSC : ∀ i : Nat, i < 7 → kindR l ≠ 0 → ∀ w : World, Calls Try.prog 12 #[.string ⟨(l ++ ends7[i]?.getD []).toArray⟩, .int .i64 0] w fun e w' => e = .returned (.tuple #[.int .u8 (kindR l), .int .i64 l.length, .int .i64 0]) ∧ Below w.heap.size w w' := by
    intro i hi hne w
    obtain ⟨c, r, e, hc⟩ := ends_al ⟨i, hi⟩
    simp only [] at e
    rw [e]
    have h1 := scan_all ([] ++ (l ++ c :: r)) (([] : List UInt8).length : Int) w (by
      have : (c :: r).length ≤ 2 := by
        rw [← e]; exact ends_len i hi
      simp only [List.nil_append, List.length_append]; omega)
    rw [scan_whole [] l c r hne hc] at h1
    simpa [scanT] using h1
  by_cases h : kindR l = 0
  · have h' : (kindR l == 0) = true := by simp [h]
    clear h HSC
    go_enter Try.func8, Try.ntmps8
    go_wp2_with (first
      | (go_at_call 9; refine (fixed_any _).mono ?_; rintro e w1 ⟨rfl, hn⟩; replace hb := bthen hb hn)
      | (go_at_call 10; refine (kind_r _ _ (by omega)).mono ?_; rintro e w1 ⟨rfl, hn⟩; replace hb := bthen hb hn))
    all_goals go_ret
    all_goals exact ⟨by simp, hb⟩
  · have h' : (kindR l == 0) = false := by simp [h]
    have HS : Hid (∀ i : Nat, i < 7 → ∀ w : World, Calls Try.prog 12 #[.string ⟨(l ++ ends7[i]?.getD []).toArray⟩, .int .i64 0] w fun e w' => e = .returned (.tuple #[.int .u8 (kindR l), .int .i64 l.length, .int .i64 0]) ∧ Below w.heap.size w w') := fun i hi w => HSC i hi h w
    generalize kindR l = K at *
    have HKK := Lib.hid hkk
    clear h HSC hkk
    go_enter Try.func8, Try.ntmps8
    go_wp2_with (first
      | (go_at_call 9; refine (fixed_any _).mono ?_; rintro e w1 ⟨rfl, hn⟩; replace hb := bthen hb hn)
      | (go_at_call 10; refine (HKK.out _).mono ?_; rintro e w1 ⟨rfl, hn⟩; replace hb := bthen hb hn))
    have hB1 := hb.size
    have hcells : ∀ j, j < 7 → (w1.alloc (Obj.cells #[.string ⟨#[43]⟩, .string ⟨#[45]⟩, .string ⟨#[59]⟩, .string ⟨#[41]⟩, .string ⟨#[32]⟩, .string ⟨#[42]⟩, .string ⟨#[195, 169]⟩] 9)).cell? ⟨w1.heap.size, j, none⟩ = some (.string ⟨(ends7[j]?.getD []).toArray⟩) := by
      intro j hj
      rw [World.cell?_alloc_at _ _ _ _ rfl]
      rcases (show j = 0 ∨ j = 1 ∨ j = 2 ∨ j = 3 ∨ j = 4 ∨ j = 5 ∨ j = 6 from by omega) with rfl | rfl | rfl | rfl | rfl | rfl | rfl <;> rfl
    have hb2 := hb.alloc hB1 (Obj.cells #[.string ⟨#[43]⟩, .string ⟨#[45]⟩, .string ⟨#[59]⟩, .string ⟨#[41]⟩, .string ⟨#[32]⟩, .string ⟨#[42]⟩, .string ⟨#[195, 169]⟩] 9)
    have hsz : (w1.alloc (Obj.cells #[.string ⟨#[43]⟩, .string ⟨#[45]⟩, .string ⟨#[59]⟩, .string ⟨#[41]⟩, .string ⟨#[32]⟩, .string ⟨#[42]⟩, .string ⟨#[195, 169]⟩] 9)).heap.size = w1.heap.size + 1 := by simp
    generalize w1.alloc (Obj.cells #[.string ⟨#[43]⟩, .string ⟨#[45]⟩, .string ⟨#[59]⟩, .string ⟨#[41]⟩, .string ⟨#[32]⟩, .string ⟨#[42]⟩, .string ⟨#[195, 169]⟩] 9) = w2 at *
    have HC := Lib.hid hcells
    have HZ := Lib.hid hsz
    clear hcells hsz
    go_loopw [20] (fun u wr => ∃ i : Nat, i ≤ 7 ∧ u = .int .i64 i ∧ Below (w1.heap.size + 1) w2 wr) (fun u _ => 7 - (intOf u).toNat)
    case atStart => exact ⟨0, by omega, rfl, Below.refl _ _⟩
    case round =>
      obtain ⟨i, hi, rfl, hbr⟩ := hrel
      by_cases hlt : i < 7
      · have hcell : wr.cell? ⟨w1.heap.size, i, none⟩ = some (.string ⟨(ends7[i]?.getD []).toArray⟩) := by
          rw [hbr.cell (by show w1.heap.size < w1.heap.size + 1; omega)]; exact HC.out i hlt
        have hle2 : (ends7[i]?.getD []).length ≤ 2 := ends_len i hlt
        generalize hE : ends7[i]?.getD [] = E at *
        have HE := Lib.hid hE
        clear hE
        have hc1 := fun w : World => HS.out i hlt w
        rw [HE.out] at hc1
        have HC1 := Lib.hid hc1
        clear hc1
        go_wp2_with (go_at_call 12; refine (HC1.out _).mono ?_; rintro e w3 ⟨rfl, hn⟩; have hbr' := hbr.trans (hn.mono (by have := hbr.size; have := HZ.out; omega)))
        all_goals go_roundw
        case rel => exact ⟨i + 1, by omega, by go_num, by assumption⟩
        case measure => simp [intOf]; omega
      · go_wp2_with fail
        go_ret
        exact ⟨rfl, hb2.trans (hbr.mono (by omega))⟩
end Go.Proofs.Ytdebafbhphobcaa
