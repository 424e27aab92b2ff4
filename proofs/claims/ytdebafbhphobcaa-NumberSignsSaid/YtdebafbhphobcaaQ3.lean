import Derived.Test.YtdebafbhphobcaaQ2
import Derived.Laws.BytesArg
namespace Go.Proofs.Ytdebafbhphobcaa
open Go.RowKit

attribute [simp] ByteArray.mk_append_mk
def bvs (l : List UInt8) : List Value := l.map fun b => Value.int .u8 (b.toNat : Int)
theorem Try.info5 : (Try.prog.info? 5).map (fun i => (i.zero, i.size, i.bytes)) = some (some (.int .u8 0), 1, 1) := by kernel_rfl
theorem conv_own {w : World} {base : Nat} {v : Value} {n : Nat} (l : List UInt8) (h : w.ownsRow base 5 1 v n (bvs l)) :
    (convert 35 9 v).run Try.prog w = .ok (.string ⟨l.toArray⟩) w := by
  obtain ⟨h1, h2 | ⟨g, cap, cur, rfl, hg, hh, hn, hc, hs, ht⟩⟩ := h
  · obtain ⟨rfl, rfl⟩ := h2
    have : l = [] := by simpa [bvs] using h1
    subst this
    exact run_convert_bytes_nil w 35 5 Try.underlying35 Try.underlying5 0 0 9 Try.underlying9
  · have hl : l.length = n := by simpa [bvs] using h1
    have := run_convert_bytes_arg (P := Try.prog) w 35 5 Try.underlying35 Try.underlying5 g 0 n cap (l.map fun b => (b.toNat : Int)) (by simpa using hl) (fun i hi => by
      have hi2 : i < l.length := by omega
      have hcur : cur[i]? = some (Value.int .u8 (l[i].toNat : Int)) := by
        have e1 : (cur.toList.take (n * 1))[i]? = (bvs l)[i]? := by rw [ht]
        rw [List.getElem?_take_of_lt (by omega)] at e1
        simp only [bvs, List.getElem?_map, List.getElem?_eq_getElem hi2, Option.map_some] at e1
        rw [← e1]; simp
      simp only [World.cell?, hh, Nat.zero_add]
      rw [List.getD_eq_getElem?_getD]
      simp only [List.getElem?_map, List.getElem?_eq_getElem hi2, Option.map_some, Option.getD_some]
      simpa using hcur) 9 Try.underlying9
    rw [this]
    congr 2
    unfold strOfNums
    congr 1
    rw [List.map_map]
    have : (fun n : Int => UInt8.ofNat n.toNat) ∘ (fun b : UInt8 => (b.toNat : Int)) = id := by funext b; simp
    rw [this, List.map_id]

def wo (c : UInt8) (l : List UInt8) : List UInt8 := l.filter fun b => b != c
theorem wo_snoc (c b : UInt8) (l : List UInt8) : wo c (l ++ [b]) = wo c l ++ (if b != c then [b] else []) := by
  unfold wo; rw [List.filter_append]; congr 1; by_cases h : b = c <;> simp [h]
theorem wo_len (c : UInt8) (l : List UInt8) : (wo c l).length ≤ l.length := List.length_filter_le _ _

set_option maxHeartbeats 1000000 in
theorem without_any (l : List UInt8) (c : UInt8) (w : World) (hs : l.length ≤ 140737488351232) :
    Calls Try.prog 14 #[.string ⟨l.toArray⟩, .int .u8 c.toNat] w fun e w' => e = .returned (.string ⟨(wo c l).toArray⟩) ∧ Below w.heap.size w w' := by
  obtain ⟨i0, hi, hz0, hz1, hz2⟩ := info_parts Try.info5
  go_enter Try.func14, Try.ntmps14
  go_wp2_with fail
  go_loopw [5, 6] (fun v u wr => ∃ k : Nat, k ≤ l.length ∧ u = .int .i64 k ∧ wr.ownsRow w.heap.size 5 1 v (wo c (l.take k)).length (bvs (wo c (l.take k))) ∧ Below w.heap.size w wr)
    (fun _ u _ => l.length - (intOf u).toNat)
  case atStart => exact ⟨0, by omega, rfl, ⟨by simp [wo, bvs], .inl ⟨rfl, by simp [wo]⟩⟩, Below.refl _ _⟩
  case round =>
    obtain ⟨k, hk, rfl, hown, hb⟩ := hrel
    by_cases hlt : k < l.length
    · have hle := wo_len c (l.take k)
      have hlt2 : (l.take k).length ≤ k := List.length_take_le _ _
      have hsn := wo_snoc c l[k] (l.take k)
      have htk : l.take (k + 1) = l.take k ++ [l[k]] := by rw [List.take_succ_eq_append_getElem hlt]
      rw [← htk] at hsn
      have Hsn := Lib.hid hsn
      clear hsn htk
      by_cases hc : l[k] = c
      · have hc' : ((l[k].toNat : Int) != c.toNat) = false := by simp [hc]
        have Hc := Lib.hid hc
        clear hc
        go_wp2_with fail
        go_roundw
        case rel => exact ⟨k + 1, by omega, by go_num, by rw [Hsn.out]; simpa [Hc.out] using hown, hb⟩
        case measure => simp [intOf]; omega
      · have hc' : ((l[k].toNat : Int) != c.toNat) = true := by
          rw [bne_iff_ne]; intro e; exact hc (UInt8.toNat_inj.1 (by omega))
        have Hc := Lib.hid hc
        clear hc
        go_wp2_with (at_builtin; refine wpList_append_own _ rfl _ _ 35 rfl w.heap.size 5 i0 (.int .u8 0) 1 1 Try.underlying35 hi hz0 hz1 hz2 rfl (by decide) _ _ _ rfl (hown.alloc _) ⟨wr.heap.size, 0, none⟩ 1 1 [.int .u8 (l[k].toNat : Int)] rfl rfl ?c1 ?c2 ?c3 ?c4 ?c5 ?_)
        case c1 =>
          intro j u hj
          match j, hj with
          | 0, hj => simp at hj; subst hj; simp [Addr.add]
        case c2 => intro u hu; simp at hu; subst hu; rfl
        case c3 => unfold maxLen; omega
        case c4 => omega
        case c5 => have := hb.size; simp; omega
        intro v' w1 hown' hgrow _
        have hb' : Below w.heap.size w w1 := (hb.alloc hb.size _).grown hgrow (by have := hb.size; simp; omega) (by
          intro j hj
          rcases hown with ⟨_, ⟨rfl, _⟩ | ⟨g, cap, cur, rfl, hg, _⟩⟩
          · simp [Value.ownBlock] at hj
          · simp [Value.ownBlock] at hj; omega)
        clear hown hgrow hb
        go_wp2_with fail
        go_roundw
        case rel => exact ⟨k + 1, by omega, by go_num, by rw [Hsn.out]; simpa [bvs, bne_iff_ne.2 Hc.out] using hown', hb'⟩
        case measure => simp [intOf]; omega
    · have hfull : l.take k = l := List.take_of_length_le (by omega)
      rw [hfull] at hown
      have hcv := conv_own _ hown
      clear hown hfull
      go_wp2_with fail
      go_ret
      exact ⟨rfl, hb⟩
end Go.Proofs.Ytdebafbhphobcaa
