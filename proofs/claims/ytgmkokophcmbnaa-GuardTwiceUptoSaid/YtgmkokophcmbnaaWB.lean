import Derived.Test.YtgmkokophcmbnaaWA
namespace Go.Proofs.Ytgmkokophcmbnaa
open Go.RowKit

def eqP (p q : Pt) : Bool := p.k == q.k && p.n == q.n && p.w == q.w
theorem eqP_iff (p q : Pt) : eqP p q = true ↔ p = q := by
  obtain ⟨a, b, c⟩ := p; obtain ⟨a', b', c'⟩ := q
  simp [eqP, and_assoc]
def eqL : List Pt → List Pt → Bool
  | [], [] => true
  | p :: r, q :: s => eqP p q && eqL r s
  | _, _ => false
theorem eqL_iff : ∀ (a b : List Pt), eqL a b = true ↔ a = b
  | [], [] => by simp [eqL]
  | [], _ :: _ => by simp [eqL]
  | _ :: _, [] => by simp [eqL]
  | p :: r, q :: s => by simp [eqL, eqP_iff, eqL_iff r s]
theorem eqL_len : ∀ (a b : List Pt), a.length ≠ b.length → eqL a b = false := by
  intro a b h
  cases he : eqL a b
  · rfl
  · rw [eqL_iff] at he; exact absurd (by rw [he]) h
theorem eqL_drop (a b : List Pt) (i : Nat) (p q : Pt) (hp : a[i]? = some p) (hq : b[i]? = some q) : eqL (a.drop i) (b.drop i) = (eqP p q && eqL (a.drop (i + 1)) (b.drop (i + 1))) := by
  have h1 : i < a.length := by
    rcases Nat.lt_or_ge i a.length with h | h
    · exact h
    · rw [List.getElem?_eq_none h] at hp; cases hp
  have h2 : i < b.length := by
    rcases Nat.lt_or_ge i b.length with h | h
    · exact h
    · rw [List.getElem?_eq_none h] at hq; cases hq
  rw [List.drop_eq_getElem_cons h1, List.drop_eq_getElem_cons h2, eqL]
  rw [List.getElem?_eq_getElem h1] at hp; rw [List.getElem?_eq_getElem h2] at hq
  cases hp; cases hq; rfl

set_option maxHeartbeats 2000000 in
theorem Same_go (x o y u c1 c2 : Nat) (a b : List Pt) (w : World) (hl : a.length ≤ 1099511627776) (hab : a.length = b.length)
    (ha : ∀ j p, a[j]? = some p → w.cell? ⟨x, o + j * 3, none⟩ = some (.int .u8 (p.k.toNat : Int)) ∧ w.cell? ⟨x, o + j * 3 + 1, none⟩ = some (.int .i64 p.n) ∧ w.cell? ⟨x, o + j * 3 + 2, none⟩ = some (.string ⟨p.w.toArray⟩))
    (hb : ∀ j p, b[j]? = some p → w.cell? ⟨y, u + j * 3, none⟩ = some (.int .u8 (p.k.toNat : Int)) ∧ w.cell? ⟨y, u + j * 3 + 1, none⟩ = some (.int .i64 p.n) ∧ w.cell? ⟨y, u + j * 3 + 2, none⟩ = some (.string ⟨p.w.toArray⟩)) :
    Calls Try.prog 14 #[.slice (some ⟨x, o, none⟩) a.length c1, .slice (some ⟨y, u, none⟩) b.length c2] w fun e w' => e = .returned (.bool (eqL a b)) ∧ Below w.heap.size w w' := by
  have hd : ((a.length : Int) == (b.length : Int)) = true := by rw [beq_iff_eq]; omega
  have HA := Lib.hid (And.intro ha hb)
  have HE := Lib.hid hab
  clear ha hb
  rw [← hab] at hd ⊢
  clear hab
  go_enter Try.func14, Try.ntmps14
  go_wp2_with fail
  go_loopw [5] (fun v w' => ∃ i : Nat, v = .int .i64 (i : Int) ∧ i ≤ a.length ∧ eqL (a.drop i) (b.drop i) = eqL a b ∧ Below w.heap.size w w') (fun v _ => ((a.length : Int) - intOf v).toNat)
  case atStart => exact ⟨0, rfl, by omega, by simp, Below.refl _ _⟩
  case round =>
    obtain ⟨i, rfl, hi, heq, hbel⟩ := hrel
    by_cases hlt : i < a.length
    · have HQ := Lib.hid heq
      have hib : i < b.length := by have := HE.out; omega
      obtain ⟨p0, p1, p2⟩ := HA.out.1 i a[i] (List.getElem?_eq_getElem hlt)
      obtain ⟨q0, q1, q2⟩ := HA.out.2 i b[i] (List.getElem?_eq_getElem hib)
      have p0 := keepCell hbel p0
      have p1 := keepCell hbel p1
      have p2 := keepCell hbel p2
      have q0 := keepCell hbel q0
      have q1 := keepCell hbel q1
      have q2 := keepCell hbel q2
      have hst := eqL_drop a b i a[i] b[i] (List.getElem?_eq_getElem hlt) (List.getElem?_eq_getElem hib)
      have HST := Lib.hid hst
      generalize a[i] = p at *
      generalize b[i] = q at *
      have i0 : (0 : Int) ≤ (i : Int) := by omega
      have i1 : (i : Int) < (a.length : Int) := by omega
      clear hst hib heq
      obtain ⟨k1, n1, s1⟩ := p
      obtain ⟨k2, n2, s2⟩ := q
      simp only [] at p0 p1 p2 q0 q1 q2
      by_cases hk : k1 = k2
      · subst hk
        by_cases hn : n1 = n2
        · subst hn
          by_cases hs : s1 = s2
          · subst hs
            have hf : eqP ⟨k1, n1, s1⟩ ⟨k1, n1, s1⟩ = true := (eqP_iff _ _).2 rfl
            have HF := Lib.hid hf
            clear hf
            go_wp2_with fail
            go_region_held3 (fun w' => w'.cell? ⟨x, o + i * 3, none⟩ = some (.int .u8 (k1.toNat : Int)) ∧ w'.cell? ⟨x, o + i * 3 + 1, none⟩ = some (.int .i64 n1) ∧ w'.cell? ⟨x, o + i * 3 + 2, none⟩ = some (.string ⟨s1.toArray⟩) ∧
          w'.cell? ⟨y, u + i * 3, none⟩ = some (.int .u8 (k1.toNat : Int)) ∧ w'.cell? ⟨y, u + i * 3 + 1, none⟩ = some (.int .i64 n1) ∧ w'.cell? ⟨y, u + i * 3 + 2, none⟩ = some (.string ⟨s1.toArray⟩)) (go_keep) (first | fail)
            go_wp2_with fail
            go_roundw
            case rel => exact ⟨i + 1, by go_num, by omega, by rw [← HQ.out, HST.out, HF.out]; rfl, hbel.drew⟩
            case measure => simp only [intOf]; first | omega | (go_num; omega) | go_num
          · have hs' : ¬ ((⟨s1.toArray⟩ : ByteArray) = ⟨s2.toArray⟩) := fun e => hs (by simpa using e)
            have hf : eqP ⟨k1, n1, s1⟩ ⟨k1, n1, s2⟩ = false := by cases h : eqP ⟨k1, n1, s1⟩ ⟨k1, n1, s2⟩ with | false => rfl | true => rw [eqP_iff] at h; cases h; exact absurd rfl hs
            have HF := Lib.hid hf
            clear hf
            go_wp2_with fail
            go_region_held3 (fun w' => w'.cell? ⟨x, o + i * 3, none⟩ = some (.int .u8 (k1.toNat : Int)) ∧ w'.cell? ⟨x, o + i * 3 + 1, none⟩ = some (.int .i64 n1) ∧ w'.cell? ⟨x, o + i * 3 + 2, none⟩ = some (.string ⟨s1.toArray⟩) ∧
              w'.cell? ⟨y, u + i * 3, none⟩ = some (.int .u8 (k1.toNat : Int)) ∧ w'.cell? ⟨y, u + i * 3 + 1, none⟩ = some (.int .i64 n1) ∧ w'.cell? ⟨y, u + i * 3 + 2, none⟩ = some (.string ⟨s2.toArray⟩)) (go_keep) (first | fail)
            go_wp2_with fail
            go_ret
            refine ⟨ret_val ?_, hbel.drew⟩
            rw [← HQ.out, HST.out, HF.out]; rfl
        · have hf : eqP ⟨k1, n1, s1⟩ ⟨k1, n2, s2⟩ = false := by cases h : eqP ⟨k1, n1, s1⟩ ⟨k1, n2, s2⟩ with | false => rfl | true => rw [eqP_iff] at h; cases h; exact absurd rfl hn
          have HF := Lib.hid hf
          clear hf
          go_wp2_with fail
          go_region_held3 (fun w' => w'.cell? ⟨x, o + i * 3, none⟩ = some (.int .u8 (k1.toNat : Int)) ∧ w'.cell? ⟨x, o + i * 3 + 1, none⟩ = some (.int .i64 n1) ∧ w'.cell? ⟨x, o + i * 3 + 2, none⟩ = some (.string ⟨s1.toArray⟩) ∧
            w'.cell? ⟨y, u + i * 3, none⟩ = some (.int .u8 (k1.toNat : Int)) ∧ w'.cell? ⟨y, u + i * 3 + 1, none⟩ = some (.int .i64 n2) ∧ w'.cell? ⟨y, u + i * 3 + 2, none⟩ = some (.string ⟨s2.toArray⟩)) (go_keep) (first | fail)
          go_wp2_with fail
          go_ret
          refine ⟨ret_val ?_, hbel.drew⟩
          rw [← HQ.out, HST.out, HF.out]; rfl
      · have hk' : ¬ ((k1.toNat : Int) = (k2.toNat : Int)) := fun e => hk (UInt8.toNat_inj.1 (by omega))
        have hf : eqP ⟨k1, n1, s1⟩ ⟨k2, n2, s2⟩ = false := by cases h : eqP ⟨k1, n1, s1⟩ ⟨k2, n2, s2⟩ with | false => rfl | true => rw [eqP_iff] at h; cases h; exact absurd rfl hk
        have HF := Lib.hid hf
        clear hf
        go_wp2_with fail
        go_region_held3 (fun w' => w'.cell? ⟨x, o + i * 3, none⟩ = some (.int .u8 (k1.toNat : Int)) ∧ w'.cell? ⟨x, o + i * 3 + 1, none⟩ = some (.int .i64 n1) ∧ w'.cell? ⟨x, o + i * 3 + 2, none⟩ = some (.string ⟨s1.toArray⟩) ∧
          w'.cell? ⟨y, u + i * 3, none⟩ = some (.int .u8 (k2.toNat : Int)) ∧ w'.cell? ⟨y, u + i * 3 + 1, none⟩ = some (.int .i64 n2) ∧ w'.cell? ⟨y, u + i * 3 + 2, none⟩ = some (.string ⟨s2.toArray⟩)) (go_keep) (first | fail)
        go_wp2_with fail
        go_ret
        refine ⟨ret_val ?_, hbel.drew⟩
        rw [← HQ.out, HST.out, HF.out]; rfl
    · have : i = a.length := by omega
      subst this
      go_wp2_with fail
      go_ret
      refine ⟨ret_val ?_, hbel⟩
      rw [← heq, List.drop_length, HE.out, List.drop_length]; rfl
set_option maxHeartbeats 2000000 in
theorem Same_gen (xa ya : Option Addr) (c1 c2 : Nat) (a b : List Pt) (w : World) (hl : a.length ≤ 1099511627776) (ha : PartsAt w xa a) (hb : PartsAt w ya b) :
    Calls Try.prog 14 #[.slice xa a.length c1, .slice ya b.length c2] w fun e w' => e = .returned (.bool (eqL a b)) ∧ Below w.heap.size w w' := by
  by_cases hab : a.length = b.length
  · by_cases h0 : a = []
    · subst h0
      have hb0 : b = [] := List.eq_nil_of_length_eq_zero (by simpa using hab.symm)
      subst hb0
      go_enter Try.func14, Try.ntmps14
      go_wp2_with fail
      refine wp_loop_rounds 1 ?_
      rw [rounds_succ]
      go_wp2_with fail
      go_ret
      exact ⟨rfl, Below.refl _ _⟩
    · have hb0 : b ≠ [] := fun e => h0 (List.eq_nil_of_length_eq_zero (by rw [hab, e]; rfl))
      obtain ⟨x, o, rfl, hx, hxa⟩ := ha.resolve_left h0
      obtain ⟨y, u, rfl, hy, hyb⟩ := hb.resolve_left hb0
      exact Same_go x o y u c1 c2 a b w hl hab hxa hyb
  · have hd : ((a.length : Int) == (b.length : Int)) = false := by rw [beq_eq_false_iff_ne]; omega
    have HF := Lib.hid (eqL_len a b hab)
    clear hab ha hb
    go_enter Try.func14, Try.ntmps14
    go_wp2_with fail
    go_ret
    exact ⟨ret_val (by rw [HF.out]; rfl), Below.refl _ _⟩

def eqI : List Int → List Int → Bool
  | [], [] => true
  | p :: r, q :: s => (p == q) && eqI r s
  | _, _ => false
theorem eqI_iff : ∀ (a b : List Int), eqI a b = true ↔ a = b
  | [], [] => by simp [eqI]
  | [], _ :: _ => by simp [eqI]
  | _ :: _, [] => by simp [eqI]
  | p :: r, q :: s => by simp [eqI, eqI_iff r s]
theorem eqI_len : ∀ (a b : List Int), a.length ≠ b.length → eqI a b = false := by
  intro a b h
  cases he : eqI a b
  · rfl
  · rw [eqI_iff] at he; exact absurd (by rw [he]) h
theorem eqI_drop (a b : List Int) (i : Nat) (p q : Int) (hp : a[i]? = some p) (hq : b[i]? = some q) : eqI (a.drop i) (b.drop i) = ((p == q) && eqI (a.drop (i + 1)) (b.drop (i + 1))) := by
  have h1 : i < a.length := by
    rcases Nat.lt_or_ge i a.length with h | h
    · exact h
    · rw [List.getElem?_eq_none h] at hp; cases hp
  have h2 : i < b.length := by
    rcases Nat.lt_or_ge i b.length with h | h
    · exact h
    · rw [List.getElem?_eq_none h] at hq; cases hq
  rw [List.drop_eq_getElem_cons h1, List.drop_eq_getElem_cons h2, eqI]
  rw [List.getElem?_eq_getElem h1] at hp; rw [List.getElem?_eq_getElem h2] at hq
  cases hp; cases hq; rfl
set_option maxHeartbeats 2000000 in
theorem Ints_go (x o y u c1 c2 : Nat) (a b : List Int) (w : World) (hl : a.length ≤ 4398046511104) (hab : a.length = b.length)
    (ha : ∀ (j : Nat) (p : Int), a[j]? = some p → w.cell? ⟨x, o + j, none⟩ = some (.int .i64 p)) (hb : ∀ (j : Nat) (p : Int), b[j]? = some p → w.cell? ⟨y, u + j, none⟩ = some (.int .i64 p)) :
    Calls Try.prog 15 #[.slice (some ⟨x, o, none⟩) a.length c1, .slice (some ⟨y, u, none⟩) b.length c2] w fun e w' => e = .returned (.bool (eqI a b)) ∧ Below w.heap.size w w' := by
  have hd : ((a.length : Int) == (b.length : Int)) = true := by rw [beq_iff_eq]; omega
  have HA := Lib.hid (And.intro ha hb)
  have HE := Lib.hid hab
  clear ha hb
  rw [← hab] at hd ⊢
  clear hab
  go_enter Try.func15, Try.ntmps15
  go_wp2_with fail
  go_loopw [5] (fun v w' => ∃ i : Nat, v = .int .i64 (i : Int) ∧ i ≤ a.length ∧ eqI (a.drop i) (b.drop i) = eqI a b ∧ Below w.heap.size w w') (fun v _ => ((a.length : Int) - intOf v).toNat)
  case atStart => exact ⟨0, rfl, by omega, by simp, Below.refl _ _⟩
  case round =>
    obtain ⟨i, rfl, hi, heq, hbel⟩ := hrel
    by_cases hlt : i < a.length
    · have HQ := Lib.hid heq
      have hib : i < b.length := by have := HE.out; omega
      have p0 := HA.out.1 i a[i] (List.getElem?_eq_getElem hlt)
      have q0 := HA.out.2 i b[i] (List.getElem?_eq_getElem hib)
      have p0 := keepCell hbel p0
      have q0 := keepCell hbel q0
      have hst := eqI_drop a b i a[i] b[i] (List.getElem?_eq_getElem hlt) (List.getElem?_eq_getElem hib)
      have HST := Lib.hid hst
      generalize a[i] = p at *
      generalize b[i] = q at *
      have i0 : (0 : Int) ≤ (i : Int) := by omega
      have i1 : (i : Int) < (a.length : Int) := by omega
      clear hst hib heq
      by_cases hk : p = q
      · subst hk
        go_wp2_with fail
        go_region_held3 (fun w' => w'.cell? ⟨x, o + i, none⟩ = some (.int .i64 p) ∧ w'.cell? ⟨y, u + i, none⟩ = some (.int .i64 p)) (go_keep) (first | fail)
        go_wp2_with fail
        go_roundw
        case rel => exact ⟨i + 1, by go_num, by omega, by rw [← HQ.out, HST.out]; simp, hbel.drew⟩
        case measure => simp only [intOf]; first | omega | (go_num; omega) | go_num
      · have hk2 : (p == q) = false := by simp [hk]
        have HF := Lib.hid hk2
        go_wp2_with fail
        go_region_held3 (fun w' => w'.cell? ⟨x, o + i, none⟩ = some (.int .i64 p) ∧ w'.cell? ⟨y, u + i, none⟩ = some (.int .i64 q)) (go_keep) (first | fail)
        go_wp2_with fail
        go_ret
        refine ⟨ret_val ?_, hbel.drew⟩
        rw [← HQ.out, HST.out, HF.out]; rfl
    · have : i = a.length := by omega
      subst this
      go_wp2_with fail
      go_ret
      refine ⟨ret_val ?_, hbel⟩
      rw [← heq, List.drop_length, HE.out, List.drop_length]; rfl
set_option maxHeartbeats 2000000 in
theorem Ints_gen (xa ya : Option Addr) (c1 c2 : Nat) (a b : List Int) (w : World) (hl : a.length ≤ 4398046511104) (ha : IntsAt w xa a) (hb : IntsAt w ya b) :
    Calls Try.prog 15 #[.slice xa a.length c1, .slice ya b.length c2] w fun e w' => e = .returned (.bool (eqI a b)) ∧ Below w.heap.size w w' := by
  by_cases hab : a.length = b.length
  · by_cases h0 : a = []
    · subst h0
      have hb0 : b = [] := List.eq_nil_of_length_eq_zero (by simpa using hab.symm)
      subst hb0
      go_enter Try.func15, Try.ntmps15
      go_wp2_with fail
      refine wp_loop_rounds 1 ?_
      rw [rounds_succ]
      go_wp2_with fail
      go_ret
      exact ⟨rfl, Below.refl _ _⟩
    · have hb0 : b ≠ [] := fun e => h0 (List.eq_nil_of_length_eq_zero (by rw [hab, e]; rfl))
      obtain ⟨x, o, rfl, hx, hxa⟩ := ha.resolve_left h0
      obtain ⟨y, u, rfl, hy, hyb⟩ := hb.resolve_left hb0
      exact Ints_go x o y u c1 c2 a b w hl hab hxa hyb
  · have hd : ((a.length : Int) == (b.length : Int)) = false := by rw [beq_eq_false_iff_ne]; omega
    have HF := Lib.hid (eqI_len a b hab)
    clear hab ha hb
    go_enter Try.func15, Try.ntmps15
    go_wp2_with fail
    go_ret
    exact ⟨ret_val (by rw [HF.out]; rfl), Below.refl _ _⟩
end Go.Proofs.Ytgmkokophcmbnaa
