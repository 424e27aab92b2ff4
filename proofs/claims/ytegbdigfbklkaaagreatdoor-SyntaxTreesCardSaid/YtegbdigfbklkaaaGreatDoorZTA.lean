import Derived.Test.YtegbdigfbklkaaaGreatDoorQBV
import Derived.Test.YtegbdigfbklkaaaGreatDoorQBW
namespace Go.Proofs.YtegbdigfbklkaaaGreatDoor
set_option linter.all false
set_option maxHeartbeats 40000000
set_option maxRecDepth 100000
section
def pairN (E : Env) (x : Nd5) : Pt3:=⟨x.kind,x.kids,partW E x.kind x.word⟩
mutual
theorem parts_nodes (E : Env) : ∀ t : Tr,parts E t = (nodes t).map (pairN E)
 | .mk k wd f t ks=>by rw [parts,nodes,List.map_cons,partsL_nodes E ks];rfl
theorem partsL_nodes (E : Env) : ∀ ts : List Tr,partsL E ts = (nodesL ts).map (pairN E)
 | []=>rfl
 | t :: ts=>by rw [partsL,nodesL,List.map_append,parts_nodes E t,partsL_nodes E ts]
end
mutual
theorem nodes_spelled (E : Env) : ∀ t : Tr,Sp E t → ∀ x ∈ nodes t,spelled E x.kind x.word = true
 | .mk k wd f t ks,h,x,hx=>by
  rw [nodes,List.mem_cons] at hx
  rcases hx with rfl | hx
  ·exact h.1
  ·exact nodesL_spelled E ks h.2 x hx
theorem nodesL_spelled (E : Env) : ∀ ts : List Tr,Sps E ts → ∀ x ∈ nodesL ts,spelled E x.kind x.word = true
 | [],_,x,hx=>by rw [nodesL] at hx;cases hx
 | t :: ts,h,x,hx=>by
  rw [nodesL,List.mem_append] at hx
  rcases hx with hx | hx
  ·exact nodes_spelled E t h.1 x hx
  ·exact nodesL_spelled E ts h.2 x hx
end
theorem name_ne {t : List UInt8} (h : nameB t = true) : t ≠ []:=fun e=>by
 subst e
 unfold nameB at h
 rw [if_pos (.inl rfl)] at h
 cases h
theorem lit_ne {t : List UInt8} (h : (valueQ t).2 = 0 ∨ Num.kindL t ≠ 0) : t ≠ []:=fun e=>by
 subst e
 rcases h with h | h
 ·exact absurd h (by decide +kernel)
 ·exact h kindL_nil
theorem word_of {E : Env} (hT : ∀ t ∈ E.l,TokSp E.s t) {k : UInt8} {wd : Int} (h : spelled E k wd = true) :
  (wd = -1 ∧ partW E k wd = []) ∨ ∃ n : Nat,∃ t : Tk,wd = (n : Int) ∧ E.l[n]? = some t ∧ partW E k wd ≠ [] ∧ (k ≠ 45 → partW E k wd = tkW E.s t):=by
 have hS:=spelt_of hT k wd h
 rcases spelled_lt h with rfl | ⟨n,rfl,hn⟩
 ·left
  refine ⟨rfl,?_⟩
  unfold partW
  split
  ·rename_i h45;subst h45;exact absurd (show false = true from h) (by decide)
  ·rfl
 ·right
  have ht : E.l[n]? = some E.l[n]:=List.getElem?_eq_getElem hn
  refine ⟨n,E.l[n],rfl,ht,?_,fun h45=>?_⟩
  ·by_cases h26 : k = 26
   ·subst h26
    have e : partW E 26 (n : Int) = tkW E.s E.l[n]:=by unfold partW;rw [if_neg (by decide)];exact text_at ht
    rw [e] at hS ⊢
    exact name_ne hS
   by_cases h27 : k = 27
   ·subst h27
    have e : partW E 27 (n : Int) = tkW E.s E.l[n]:=by unfold partW;rw [if_neg (by decide)];exact text_at ht
    rw [e] at hS ⊢
    have hS : ((valueQ (tkW E.s E.l[n])).2 == 0 || Num.kindL (tkW E.s E.l[n]) != 0) = true:=hS
    refine lit_ne ?_
    rw [Bool.or_eq_true] at hS
    rcases hS with h | h
    ·exact .inl (eq_of_beq h)
    ·exact .inr (by simpa using h)
   ·unfold spelled at h
    rw [if_neg h26,if_neg h27,if_neg (by omega)] at h
    simp only [Bool.and_eq_true,bne_iff_ne,ne_eq,decide_eq_true_eq] at h
    obtain ⟨⟨h1,h2⟩,h3⟩:=h
    have hm:=spW_words h2 h3
    obtain ⟨h4,_⟩:=words_all ⟨k.toNat,k.toNat_lt⟩ (E.word (n : Int)) (by simpa using hm)
    have htx:=text_word (E:=E) (wd:=(n : Int)) rfl h2 h4
    unfold partW
    split
    ·split
     ·decide
     ·split
      ·decide
      ·rw [htx];exact h2
    ·rw [htx];exact h2
  ·unfold partW
   rw [if_neg h45]
   exact text_at ht
theorem decls_root (E : Env) : ∀ (k : Nat) (a b : Tr) (c : List Tr) (n : Nat) (g : Bool) (t : Tr) (m : Nat),(spec E k).t (.fileDecls a b c) n g = .ok t m → t.kind = 1 ∧ t.fr = 0 ∧ t.to = m
 | 0,a,b,c,n,g,t,m,h=>by cases h
 | k + 1,a,b,c,n,g,t,m,h=>by
  have h : fileDeclsB E (spec E k) a b c n g = .ok t m:=h
  have sub : ∀ (r : R Tr),(r.andThen fun x n1=>(want E [59] n1).andThen fun _ n2=>(spec E k).t (.fileDecls a b (c ++ [x])) n2 g) = .ok t m → t.kind = 1 ∧ t.fr = 0 ∧ t.to = m:=fun r hr=>by
   cases r with
   | ok x n1 =>
    have hr : ((want E [59] n1).andThen fun _ n2=>(spec E k).t (.fileDecls a b (c ++ [x])) n2 g) = .ok t m:=hr
    unfold want at hr
    split at hr
    ·exact decls_root E k _ _ _ _ _ _ _ hr
    ·cases hr
   | bad j=>cases hr
   | out=>cases hr
  unfold fileDeclsB at h
  split at h
  ·exact sub _ h
  ·split at h
   ·exact sub _ h
   ·cases h;exact ⟨rfl,rfl,rfl⟩
theorem imports_root (E : Env) : ∀ (k : Nat) (a : Tr) (c : List Tr) (n : Nat) (g : Bool) (t : Tr) (m : Nat),(spec E k).t (.fileImports a c) n g = .ok t m → t.kind = 1 ∧ t.fr = 0 ∧ t.to = m
 | 0,a,c,n,g,t,m,h=>by cases h
 | k + 1,a,c,n,g,t,m,h=>by
  have h : fileImportsB E (spec E k) a c n g = .ok t m:=h
  unfold fileImportsB at h
  split at h
  ·cases hr : (spec E k).t .group n g with
   | ok x n1 =>
    rw [hr] at h
    have h : ((want E [59] n1).andThen fun _ n2=>(spec E k).t (.fileImports a (c ++ [x])) n2 g) = .ok t m:=h
    unfold want at h
    split at h
    ·exact imports_root E k _ _ _ _ _ _ h
    ·cases h
   | bad j=>rw [hr] at h;cases h
   | out=>rw [hr] at h;cases h
  ·exact decls_root E k _ _ _ _ _ _ _ h
theorem file_root {E : Env} {t : Tr} {m : Nat} (h : treeT E 4 = .ok t m) : t.kind = 1 ∧ t.fr = 0 ∧ t.to = E.l.length:=by
 obtain ⟨_,n,hn,hs,hg⟩:=treeT_ok h
 have hn : n = E.l.length:=hg.resolve_left (by decide)
 have hs : (spec E (stepsT E)).t .file 0 false = .ok t n:=hs
 unfold stepsT at hs
 have hs : fileB E (spec E (20 * E.l.length + 19)) 0 false = .ok t n:=hs
 unfold fileB at hs
 unfold want at hs
 split at hs
 ·have hs : ((nameT E (0 + 1)).andThen fun name n2=>(want E [59] n2).andThen fun _ n3=>(spec E (20 * E.l.length + 19)).t (.fileImports name []) n3 false) = .ok t n:=hs
  cases hr : nameT E (0 + 1) with
  | ok x n1 =>
   rw [hr] at hs
   have hs : ((want E [59] n1).andThen fun _ n3=>(spec E (20 * E.l.length + 19)).t (.fileImports x []) n3 false) = .ok t n:=hs
   unfold want at hs
   split at hs
   ·obtain ⟨h1,h2,h3⟩:=imports_root E _ _ _ _ _ _ _ hs
    exact ⟨h1,h2,by omega⟩
   ·cases hs
  | bad j=>rw [hr] at hs;cases hs
  | out=>rw [hr] at hs;cases hs
 ·cases hs
theorem nestF_at (s : List UInt8) (l0 : List Tk) (hl : ∀ t ∈ l0,t.fr ≤ s.length) : ∀ (r : List Tk) (i : Nat) (st : NestS) (e a : Nat),(∀ t ∈ r,t.fr ≤ s.length) → nestF s l0 r i st = .bad e a → a ≤ s.length
 | [],i,st,e,a,_,h=>by
  have key : ∀ j,tkFr l0 j ≤ s.length:=fun j=>by
   unfold tkFr
   cases hj : l0[j]? with
   | none=>exact Nat.zero_le _
   | some t=>exact hl t (List.mem_of_getElem? hj)
  rw [nestF] at h
  split at h
  ·cases h
  ·cases h;exact key _
 | t :: r,i,st,e,a,hr,h=>by
  have h1:=hr t (List.mem_cons_self ..)
  have h2 : ∀ t ∈ r,t.fr ≤ s.length:=fun x hx=>hr x (List.mem_cons_of_mem _ hx)
  rw [nestF] at h
  split at h
  ·exact nestF_at s l0 hl r _ _ e a h2 h
  ·split at h
   ·split at h
    ·cases h;exact h1
    ·exact nestF_at s l0 hl r _ _ e a h2 h
   ·split at h
    ·split at h
     ·cases h;exact h1
     ·exact nestF_at s l0 hl r _ _ e a h2 h
    ·exact nestF_at s l0 hl r _ _ e a h2 h
theorem nestN_at {s : List UInt8} {e a : Nat} (h : nestN s = .bad e a) : a ≤ s.length:=by
 unfold nestN at h
 split at h
 ·rename_i hW
  cases h
  unfold nestWR at hW
  split at hW
  ·rename_i hS;cases hW;exact (semiR_bad hS).2
  ·rename_i l hS
   have hf:=(semiR_ok hS).1
   have hf2 : ∀ t ∈ l,t.fr ≤ s.length:=fun t ht=>by have:=hf t ht;exact Nat.le_trans this.1 this.2.1
   exact nestF_at s l hf2 l _ _ _ _ hf2 hW
 ·cases h
theorem readT_at {goal : UInt8} {s : List UInt8} {e a : Nat} (h : readT nestN goal s = .bad e a) : a ≤ s.length:=by
 unfold readT at h
 split at h
 ·cases h;exact Nat.zero_le _
 ·split at h
  ·rename_i hN;cases h;exact nestN_at hN
  ·rename_i l p hN
   have hf:=(semiR_ok (nestN_ok hN)).1
   split at h
   ·cases h
   ·rename_i j _
    cases h
    unfold faultAt
    split
    ·rename_i t ht
     have:=hf t (List.mem_of_getElem? ht)
     exact Nat.le_trans this.1 this.2.1
    ·exact Nat.le_refl _
   ·cases h;exact Nat.zero_le _
end
section
open Go.RowKit
variable {w : World}
theorem trees_law (n : UInt8) (s : List UInt8) (hT : Tabs w) : Calls Tryz.prog 4 #[.int .u8 (n.toNat : Int),.string ⟨s.toArray⟩] w (fun e w'=>e = .returned (.bool true) ∧ Below w.heap.size w w'):=by
 have HG:=fun w=>goal_walk (w:=w) n
 obtain ⟨gl,hgl⟩ : ∃ gl,gl = goalB n:=⟨_,rfl⟩
 rw [← hgl] at HG
 have HP0:=fun w h=>parse_any gl s w h
 have HM0:=fun w h=>term_any gl s w h
 obtain ⟨r,hr⟩ : ∃ r,r = readT nestN gl s:=⟨_,rfl⟩
 rw [← hr] at HP0 HM0
 have HR:=Lib.hid hr
 obtain ⟨er,her⟩ : ∃ er,er = (errR r).1:=⟨_,rfl⟩
 obtain ⟨ea,hea⟩ : ∃ ea,ea = (errR r).2:=⟨_,rfl⟩
 rw [← her,← hea] at HP0 HM0
 have HE:=Lib.hid (And.intro her hea)
 have HP:=Lib.hid HP0
 have HM:=Lib.hid HM0
 have HX:=Lib.hid (fun w h=>fixed_walk (w:=w) h)
 have HT:=Lib.hid hT
 clear hgl hT hr her hea HP0 HM0
 go_enter Tryz.func4,Tryz.ntmps4
 go_upto_region 2 with (first | (go_at_call 12;refine (HG _).mono ?_;rintro e w1 ⟨rfl,hw1⟩;replace hw1:=hw1.symm;subst hw1) | (go_at_call 11;refine (HP.out _ HT.out).mono ?_;rintro e w2 ⟨ta1,na1,tn1,tc1,nn1,nc1,rfl,hq1,hb1⟩))
 obtain ⟨OP1,hOP1⟩ : ∃ O,O = Obj.cells #[.slice ta1 tn1 tc1,.slice na1 nn1 nc1] 41 (0,0):=⟨_,rfl⟩
 obtain ⟨OF,hOF⟩ : ∃ O,O = Obj.cells #[.int .i64 (er : Int),.int .i64 (ea : Int)] 27 (0,0):=⟨_,rfl⟩
 rw [← hOP1,← hOF]
 obtain ⟨bA,A1,A2,sA⟩:=two_alloc w2 OP1 OF
 have BA:=hb1.trans (bA.mono hb1.size)
 have hs1:=hb1.size
 have HQ1:=Lib.hid hq1
 clear hq1 hb1
 generalize (w2.alloc OP1).alloc OF = wA at *
 have HTA:=Lib.hid (HT.out.below BA)
 go_upto_region 3 with (first | (go_at_call 12;refine (HG _).mono ?_;rintro e w3 ⟨rfl,hw3⟩;replace hw3:=hw3.symm;subst hw3) | (go_at_call 6;refine (HM.out _ HTA.out).mono ?_;rintro e w4 ⟨pa3,pn3,pc3,rfl,hq3,hb3⟩))
 rw [← hOF]
 have C1:=heap_alloc_new w4 OF
 have bC:=(Below.refl w4.heap.size w4).alloc (Nat.le_refl _) OF
 have sC : (w4.alloc OF).heap.size = w4.heap.size + 1:=by simp
 have bAC:=hb3.trans (bC.mono hb3.size)
 have BC:=bthen BA bAC
 have A1:=(bAC.block _ (by omega)).trans A1
 have A2:=(bAC.block _ (by omega)).trans A2
 have hs3:=hb3.size
 have HQ3:=Lib.hid (And.intro hq3 (And.intro bAC (And.intro bC bA)))
 clear hq3 hb3 bC bAC bA
 generalize w4.alloc OF = wC at *
 have HTC:=Lib.hid (HT.out.below BC)
 rw [hOF] at A2 C1
 obtain ⟨f1,f2,_,_⟩:=two_cells A2
 obtain ⟨f3,f4,_,_⟩:=two_cells C1
 clear A2 C1 hOF BA
 have HBC:=Lib.hid BC
 clear BC
 cases r with
 | bad e0 a0 =>
  obtain ⟨h1,h2⟩:=HE.out
  have hne : e0 ≠ 0:=readT_ne nest_law HR.out.symm
  have hle : a0 ≤ s.length:=readT_at HR.out.symm
  have h3 : er = e0:=h1
  have h4 : ea = a0:=h2
  subst h3;subst h4
  obtain ⟨q1,q2⟩:=HQ1.out
  have q3 : Value.slice pa3 pn3 pc3 = .slice none 0 0:=HQ3.out.1
  cases q1;cases q2;cases q3
  have k1 : (er == 0) = false:=by simpa using hne
  have k2 : ((er : Int) == 0) = false:=by simp;omega
  have k3 : (er != 0) = true:=by simpa using hne
  have k4 : ((er : Int) != 0) = true:=by simp;omega
  have k5 : decide (0 ≤ (ea : Int)) = true:=by simp
  have k6 : decide (ea ≤ s.length) = true:=by simpa using hle
  have k7 : decide ((ea : Int) ≤ (s.length : Int)) = true:=by simp;omega
  rw [hOP1] at A1
  obtain ⟨p1,p2,_,_⟩:=two_cells A1
  clear h1 h2 hne A1
  go_wp2_with (go_at_call 7;refine (HX.out _ HTC.out).mono ?_;rintro e w9 ⟨rfl,hb9⟩;have f1:=keepCell hb9 f1;have f2:=keepCell hb9 f2;have f3:=keepCell hb9 f3;have f4:=keepCell hb9 f4;have p1:=keepCell hb9 p1;have p2:=keepCell hb9 p2;have HB9:=Lib.hid (bthen HBC.out hb9);clear hb9)
  go_ret
  exact ⟨rfl,HB9.out⟩
 | ok l t =>
  obtain ⟨h1,h2⟩:=HE.out
  have h3 : er = 0:=h1
  have h4 : ea = 0:=h2
  subst h3;subst h4
  clear h1 h2
  go_upto_region 7 with (go_at_call 7;refine (HX.out _ HTC.out).mono ?_;rintro e w9 ⟨rfl,hb9⟩;have f1:=keepCell hb9 f1;have f2:=keepCell hb9 f2;have f3:=keepCell hb9 f3;have f4:=keepCell hb9 f4)
  clear f1 f2 f3 f4
  obtain ⟨q1t,q1n⟩:=HQ1.out
  obtain ⟨q3,bAC,bC,bA⟩:=HQ3.out
  replace q3 : w4.ownsRow wA.heap.size 34 3 (.slice pa3 pn3 pc3) _ (pt3sV (parts ⟨s,l,[]⟩ t)):=q3
  have et : tn1 = l.length:=by obtain ⟨_,_,e⟩:=Grd.own_shape q1t;cases e;rfl
  have en : nn1 = (nodes t).length:=by obtain ⟨_,_,e⟩:=Grd.own_shape q1n;cases e;rfl
  have ep : pn3 = (parts ⟨s,l,[]⟩ t).length:=by obtain ⟨_,_,e⟩:=Grd.own_shape q3;cases e;rfl
  have hN:=nodes_len t
  have hK:=parts_len ⟨s,l,[]⟩ t
  obtain rfl : nn1 = pn3:=by omega
  have X2 : Fr [] w2 w9:=(Fr.below bA).trans ((Fr.below bAC).trans (Fr.below hb9))
  have X4 : Fr [] w4 w9:=(Fr.below bC).trans (Fr.below hb9)
  have R1n:=own_fr q1n X2 (by simp)
  have R1t:=own_fr q1t X2 (by simp)
  have R3:=own_fr q3 X4 (by simp)
  have A1:=(hb9.block _ (by omega)).trans A1
  have B9:=Lib.hid (bthen HBC.out hb9)
  have HOK:=read_ok HR.out.symm
  have hcl : l.length ≤ 131072:=HOK.few
  have hcnt : nn1 ≤ 100000000:=by have:=HOK.cnt;omega
  have hpos : 0 < nn1:=by have:=cnt_pos t;omega
  have R1n' : w9.ownsRow w.heap.size 47 5 (.slice na1 (nodes t).length nc1) (nodes t).length (nd5sV (nodes t)):=by rw [← en];rw [← en] at R1n;exact R1n
  have R1t' : w9.ownsRow w.heap.size 49 3 (.slice ta1 l.length tc1) l.length (tokV l):=by rw [← et];rw [← et] at R1t;exact R1t
  have R3' : w9.ownsRow wA.heap.size 34 3 (.slice pa3 (parts ⟨s,l,[]⟩ t).length pc3) (parts ⟨s,l,[]⟩ t).length (pt3sV (parts ⟨s,l,[]⟩ t)):=by rw [← ep];rw [← ep] at R3;exact R3
  obtain ⟨bN,rfl,hloN,hlN,hcN⟩:=nodes_at R1n' (by omega)
  rcases parts_at R3' rfl with h0 | ⟨bP,offP,rfl,hlP,hcP⟩
  ·have:=congrArg List.length h0
   rw [List.length_map,← ep] at this
   simp only [List.length_nil] at this
   omega
  have HC1:=rtree_good HR.out.symm R1n'
  rw [← en,← et] at HC1
  have HC1:=Lib.hid HC1
  have HC2:=fun (w' : World) (hb : Below w9.heap.size w9 w')=>rterm_good HR.out.symm (HT.out.below (bthen B9.out hb)) (own_fr R3' (Fr.below (X:=[]) hb) (by simp))
  rw [← ep] at HC2
  have HC2:=Lib.hid HC2
  have hPN:=parts_nodes ⟨s,l,[]⟩ t
  have HSP : ∀ x ∈ nodes t,(x.word = -1 ∧ partW ⟨s,l,[]⟩ x.kind x.word = []) ∨ ∃ n : Nat,∃ tk : Tk,x.word = (n : Int) ∧ l[n]? = some tk ∧ partW ⟨s,l,[]⟩ x.kind x.word ≠ [] ∧ (x.kind ≠ 45 → partW ⟨s,l,[]⟩ x.kind x.word = tkW s tk):=fun x hx=>by
   obtain ⟨p,hp⟩:=HOK.spell
   obtain ⟨p2,m2,hN2,_⟩:=readT_ok HR.out.symm
   exact word_of (E:=⟨s,l,[]⟩) (fun y hy=>semiR_sp (nestN_ok hN2) y hy) (nodes_spelled ⟨s,l,p⟩ t hp x hx)
  have HTK : ∀ (j : Nat) (tk : Tk),l[j]? = some tk → ∃ b,ta1 = some ⟨b,0,none⟩ ∧ b < w9.heap.size ∧ w9.cell? ⟨b,j * 3,none⟩ = some (.int .u8 (tk.kind.toNat : Int)) ∧ w9.cell? ⟨b,j * 3 + 1,none⟩ = some (.int .i64 (tk.fr : Int)) ∧ w9.cell? ⟨b,j * 3 + 2,none⟩ = some (.int .i64 (tk.to : Int)):=fun j tk hj=>by
   obtain ⟨t0,t1,t2⟩:=tokV_at hj
   obtain ⟨b,e,_,hb,c0⟩:=cell_of_row R1t' t0
   obtain ⟨b',e',_,_,c1⟩:=cell_of_row R1t' t1
   obtain ⟨b'',e'',_,_,c2⟩:=cell_of_row R1t' t2
   rw [e] at e' e''
   cases e';cases e''
   exact ⟨b,e,hb,c0,c1,c2⟩
  have HFI:=HOK.fits
  have HSH:=HOK.short
  have HZ : Hid (∀ i,i < nn1 → ∃ x : Nd5,∃ pw : List UInt8,(w9.cell? ⟨bN,0 + i * 5,none⟩ = some (.int .u8 (x.kind.toNat : Int)) ∧ w9.cell? ⟨bN,0 + i * 5 + 1,none⟩ = some (.int .i64 (x.kids : Int)) ∧ w9.cell? ⟨bN,0 + i * 5 + 2,none⟩ = some (.int .i64 x.word)) ∧
    (w9.cell? ⟨bP,offP + i * 3,none⟩ = some (.int .u8 (x.kind.toNat : Int)) ∧ w9.cell? ⟨bP,offP + i * 3 + 1,none⟩ = some (.int .i64 (x.kids : Int)) ∧ w9.cell? ⟨bP,offP + i * 3 + 2,none⟩ = some (.string ⟨pw.toArray⟩)) ∧
    ((x.word = -1 ∧ pw = []) ∨ ∃ n : Nat,x.word = (n : Int) ∧ n < tn1 ∧ pw ≠ [] ∧ ∃ b f g : Nat,∃ kk : UInt8,ta1 = some ⟨b,0,none⟩ ∧ b < w9.heap.size ∧ w9.cell? ⟨b,n * 3,none⟩ = some (.int .u8 (kk.toNat : Int)) ∧ w9.cell? ⟨b,n * 3 + 1,none⟩ = some (.int .i64 (f : Int)) ∧ w9.cell? ⟨b,n * 3 + 2,none⟩ = some (.int .i64 (g : Int)) ∧ f ≤ g ∧ g ≤ s.length ∧ (x.kind ≠ 45 → pw = (s.take g).drop f))):=Lib.hid (fun i hi=>by
   have hx : (nodes t)[i]? = some (nodes t)[i]:=List.getElem?_eq_getElem (by omega)
   have hp : ((parts ⟨s,l,[]⟩ t).map ptG)[i]? = some (ptG (pairN ⟨s,l,[]⟩ (nodes t)[i])):=by rw [hPN,List.getElem?_map,List.getElem?_map,hx];rfl
   obtain ⟨n0,n1,n2,_⟩:=hcN i _ hx
   obtain ⟨p0,p1,p2⟩:=hcP i _ hp
   refine ⟨(nodes t)[i],partW ⟨s,l,[]⟩ (nodes t)[i].kind (nodes t)[i].word,⟨n0,n1,n2⟩,⟨p0,p1,p2⟩,?_⟩
   rcases HSP _ (List.mem_of_getElem? hx) with h | ⟨n,tk,h1,h2,h3,h4⟩
   ·exact .inl h
   ·obtain ⟨b,e,hb,c0,c1,c2⟩:=HTK n tk h2
    obtain ⟨f1,f2⟩:=HFI tk (List.mem_of_getElem? h2)
    exact .inr ⟨n,h1,by have:=(List.getElem?_eq_some_iff.1 h2).1;omega,h3,b,tk.fr,tk.to,tk.kind,e,hb,c0,c1,c2,f1,f2,h4⟩)
  have HRT : Hid (gl = 4 → w9.cell? ⟨bN,0,none⟩ = some (.int .u8 1) ∧ w9.cell? ⟨bN,3,none⟩ = some (.int .i64 0) ∧ w9.cell? ⟨bN,4,none⟩ = some (.int .i64 (tn1 : Int)) ∧ w9.cell? ⟨bP,offP,none⟩ = some (.int .u8 1)):=Lib.hid (fun hg=>by
   subst hg
   obtain ⟨p2,m2,hN2,hT2⟩:=readT_ok HR.out.symm
   obtain ⟨r1,r2,r3⟩:=file_root hT2
   obtain ⟨x,l2,hx⟩ : ∃ x l2,nodes t = x :: l2 ∧ x.kind = t.kind ∧ x.fr = t.fr ∧ x.till = t.to:=by cases t;exact ⟨_,_,rfl,rfl,rfl,rfl⟩
   obtain ⟨hx,x1,x2,x3⟩:=hx
   obtain ⟨n0,n1,n2,n3,n4⟩:=hcN 0 x (by rw [hx];rfl)
   obtain ⟨q0,q1,q2⟩:=hcP 0 (ptG (pairN ⟨s,l,[]⟩ x)) (by rw [hPN,hx];rfl)
   rw [x1,r1] at n0
   rw [x2,r2] at n3
   rw [x3,r3] at n4
   replace q0 : w9.cell? ⟨bP,offP + 0 * 3,none⟩ = some (.int .u8 (x.kind.toNat : Int)):=q0
   rw [x1,r1] at q0
   refine ⟨by simpa using n0,by simpa using n3,?_,by simpa using q0⟩
   rw [et];simpa using n4)
  rw [hOP1] at A1
  have HA1:=Lib.hid A1
  obtain ⟨c0,c1,_,_⟩:=two_cells A1
  have HS:=Lib.hid (And.intro HSH (And.intro hcl (And.intro et en)))
  have hz:=hb9.size
  have hlt:=R1n.lt
  clear q1t q1n q3 bAC bC bA X2 X4 R1n R1t R3 R1n' R1t' R3' HSP HTK HFI hcP hcN hPN A1 HOK hb9 HQ1 HQ3 HSH hcl et en ep hN hK HP HM HX HE HBC HTA HTC
  go_wp2_with (first | (go_at_call 13;refine HC1.out.mono ?_;rintro e w10 ⟨rfl,hb10⟩;have c0:=keepCell hb10 c0;have c1:=keepCell hb10 c1;have HB10:=Lib.hid hb10;clear hb10) | (go_at_call 8;refine (HC2.out _ HB10.out).mono ?_;rintro e w11 ⟨rfl,hb11⟩;have c0:=keepCell hb11 c0;have c1:=keepCell hb11 c1;have HB11:=Lib.hid (bthen HB10.out hb11);clear hb11))
  clear c0 c1
  go_loopg [9,10] nn1 (fun j v9 v10 wr=>∃ i : Nat,v9 = .int .i64 (i : Int) ∧ i + j = nn1 ∧ Below w9.heap.size w9 wr)
  case atStart=>exact ⟨0,rfl,by omega,HB11.out⟩
  case round =>
   obtain ⟨i,rfl,hj,hBr⟩:=hrel
   obtain ⟨wq,hwq⟩ : ∃ x,x = wr:=⟨_,rfl⟩
   subst hwq
   obtain ⟨c0,c1,_,_⟩:=two_cells ((hBr.block _ (by omega)).trans HA1.out)
   by_cases hi : i < nn1
   ·obtain ⟨⟨xk,xn,xw,xf,xt⟩,pw,⟨n0,n1,n2⟩,⟨p0,p1,p2⟩,hw⟩:=HZ.out i hi
    have hcells:=And.intro (And.intro n0 (And.intro n1 n2)) (And.intro p0 (And.intro p1 p2))
    simp only [Nat.zero_add] at hcells
    replace n0:=keepC hBr hlN n0
    replace n1:=keepC hBr hlN n1
    replace n2:=keepC hBr hlN n2
    replace p0:=keepC hBr hlP p0
    replace p1:=keepC hBr hlP p1
    replace p2:=keepC hBr hlP p2
    simp only [Nat.zero_add] at n0 n1 n2 hw
    have hi2 : (i : Int) < (nn1 : Int):=by omega
    have HBR:=Lib.hid hBr
    clear hBr
    rcases hw with ⟨rfl,rfl⟩ | ⟨n,rfl,hn,hpw,hw⟩
    ·clear hcells
     go_wp2_with fail
     go_big_quiet (fail)
     go_wp2_with fail
     go_roundg (gk - 1)
     case measure=>omega
     case rel=>exact ⟨i + 1,by simp,by omega,Go.below_drewN HBR.out _⟩
    ·obtain ⟨b,f,g,kk,rfl,hb,d0,d1,d2,hfg,hgs,h45⟩:=hw
     have HCE:=Lib.hid (And.intro hcells.1 (And.intro hcells.2 (And.intro d0 (And.intro d1 d2))))
     clear hcells
     replace d0:=keepC HBR.out hb d0
     replace d1:=keepC HBR.out hb d1
     replace d2:=keepC HBR.out hb d2
     have HPW:=Lib.hid hpw
     have k1 : (pw == []) = false:=by simpa using hpw
     have H45:=Lib.hid h45
     clear hpw h45
     by_cases e45 : xk = 45
     ·subst e45
      go_wp2_with fail
      go_big_quiet (fail)
      go_wp2_with fail
      go_roundg (gk - 1)
      case measure=>omega
      case rel=>exact ⟨i + 1,by simp,by omega,Go.below_drewN HBR.out _⟩
     ·obtain rfl : pw = (s.drop f).take (g - f):=(H45.out e45).trans (by rw [List.drop_take])
      have k2 : ((xk.toNat : Int) == 45) = false:=by
       have : xk.toNat ≠ 45:=fun e=>e45 (UInt8.toNat_inj.1 e)
       simp;omega
      have k3 : (xk.toNat == 45) = false:=by
       have : xk.toNat ≠ 45:=fun e=>e45 (UInt8.toNat_inj.1 e)
       simp;omega
      have hn2 : (n : Int) < (tn1 : Int):=by omega
      clear e45
      go_wp2_with fail
      go_big_quiet (fail)
      go_wp2_with fail
      generalize hwv : wq.drewN nq = wv
      obtain ⟨wd,hwd⟩ : ∃ x,x = wv.drew:=⟨_,rfl⟩
      have hBd : Below w9.heap.size w9 wd:=by rw [hwd,← hwv];exact (Go.below_drewN HBR.out _).drew
      have HWD:=Lib.hid hwd
      clear hwd hwv c0 c1 n0 n1 n2 p0 p1 p2 d0 d1 d2 k2 k3
      obtain ⟨c0,c1,_,_⟩:=two_cells ((hBd.block _ (by omega)).trans HA1.out)
      obtain ⟨⟨n0,n1,n2⟩,⟨p0,p1,p2⟩,d0,d1,d2⟩:=HCE.out
      replace n2:=keepC hBd hlN n2
      replace p2:=keepC hBd hlP p2
      replace d0:=keepC hBd hb d0
      replace d1:=keepC hBd hb d1
      replace d2:=keepC hBd hb d2
      clear n0 n1 p0 p1
      have hz9:=hBd.size
      have hal : ∀ (o : Obj) (q i : Nat),q < w9.heap.size → (wd.alloc o).cell? ⟨q,i,none⟩ = wd.cell? ⟨q,i,none⟩:=fun o q i hq=>World.cell?_of_block (a:=⟨q,i,none⟩) (((Below.refl wd.heap.size wd).alloc (Nat.le_refl _) o).block q (by omega))
      have hw2 : w2.heap.size < w9.heap.size:=by omega
      refine wp_region_held_drew (S:=fun w'=>w'.cell? ⟨w2.heap.size,0,none⟩ = some (.slice (some ⟨b,0,none⟩) tn1 tc1) ∧ w'.cell? ⟨w2.heap.size,1,none⟩ = some (.slice (some ⟨bN,0,none⟩) nn1 nc1) ∧ w'.cell? ⟨bN,i * 5 + 2,none⟩ = some (.int .i64 (n : Int)) ∧ w'.cell? ⟨b,n * 3,none⟩ = some (.int .u8 (kk.toNat : Int)) ∧ w'.cell? ⟨b,n * 3 + 1,none⟩ = some (.int .i64 (f : Int)) ∧ w'.cell? ⟨b,n * 3 + 2,none⟩ = some (.int .i64 (g : Int))) (by kernel_rfl) ?_ (fun hHeld=>?_)
      ·rw [← HWD.out];(try dsimp only);exact ⟨c0,c1,n2,d0,d1,d2⟩
      rw [← HWD.out] at hHeld ⊢
      refine tk 0 ?_;try simp only [Act.put,ls]
      refine tk 1 ?_;try simp only [Act.put,ls]
      refine tk 2 ?_;try simp only [Act.put,ls]
      refine tk 3 ?_;try simp only [Act.put,ls]
      refine tk 4 ?_;try simp only [Act.put,ls]
      refine tk 5 ?_;try simp only [Act.put,ls]
      refine tk 6 ?_;try simp only [Act.put,ls]
      refine tk 7 ?_;try simp only [Act.put,ls]
      refine tk 8 ?_;try simp only [Act.put,ls]
      refine tk 9 ?_;try simp only [Act.put,ls]
      refine wpAnyH_ready (rs:=[10]) (by kernel_rfl) (by simp) (AllReadyH.cons (o:=?_) ?_ (fun K hK=>?_) AllReadyH.nil)
      rotate_left
      ·(first | (simp only [List.getElem?_toArray,List.getElem?_cons_succ,List.getElem?_cons_zero];done) | (simp only [List.getElem?_toArray,List.getElem?_cons_succ,List.getElem?_cons_zero];exact rfl))
      go_simp
      go_wp2_with fail
      refine hK.out _ _ ?_ (fun hHeld10=>?_)
      ·(try dsimp only);exact ⟨(hal _ _ _ hw2).trans c0,(hal _ _ _ hw2).trans c1,(hal _ _ _ hlN).trans n2,(hal _ _ _ hb).trans d0,(hal _ _ _ hb).trans d1,(hal _ _ _ hb).trans d2⟩
      clear hK K
      try simp only [Act.put,List.setIfInBounds_toArray,List.set_cons_zero,List.set_cons_succ]
      refine wpAnyH_ready (rs:=[11]) (by kernel_rfl) (by simp) (AllReadyH.cons (o:=?_) ?_ (fun K hK=>?_) AllReadyH.nil)
      rotate_left
      ·(first | (simp only [List.getElem?_toArray,List.getElem?_cons_succ,List.getElem?_cons_zero];done) | (simp only [List.getElem?_toArray,List.getElem?_cons_succ,List.getElem?_cons_zero];exact rfl))
      go_simp
      go_wp2_with fail
      refine hK.out _ _ ?_ (fun hHeld11=>?_)
      ·(try dsimp only);exact ⟨(hal _ _ _ hw2).trans c0,(hal _ _ _ hw2).trans c1,(hal _ _ _ hlN).trans n2,(hal _ _ _ hb).trans d0,(hal _ _ _ hb).trans d1,(hal _ _ _ hb).trans d2⟩
      clear hK K
      try simp only [Act.put,List.setIfInBounds_toArray,List.set_cons_zero,List.set_cons_succ]
      refine wpAnyH_done (by kernel_rfl) ?_ _
      have t1 : (wd.alloc (Obj.cells #[.int .u8 (kk.toNat : Int),.int .i64 (f : Int),.int .i64 (g : Int)] 49 (0,0))).cell? ⟨wd.heap.size,1,none⟩ = some (.int .i64 (f : Int)):=by unfold World.cell?;rw [heap_alloc_new];rfl
      have t2 : (wd.alloc (Obj.cells #[.int .u8 (kk.toNat : Int),.int .i64 (f : Int),.int .i64 (g : Int)] 49 (0,0))).cell? ⟨wd.heap.size,2,none⟩ = some (.int .i64 (g : Int)):=by unfold World.cell?;rw [heap_alloc_new];rfl
      have p2:=(hal (Obj.cells #[.int .u8 (kk.toNat : Int),.int .i64 (f : Int),.int .i64 (g : Int)] 49 (0,0)) _ _ hlP).trans p2
      have hBn : Below w9.heap.size w9 (wd.alloc (Obj.cells #[.int .u8 (kk.toNat : Int),.int .i64 (f : Int),.int .i64 (g : Int)] 49 (0,0))):=hBd.alloc (by omega) _
      generalize wd.alloc (Obj.cells #[.int .u8 (kk.toNat : Int),.int .i64 (f : Int),.int .i64 (g : Int)] 49 (0,0)) = wn at *
      have HBn:=Lib.hid hBn
      clear hBn hHeld hHeld10 hHeld11 c0 c1 n2 d0 d1 d2 hal hBd k1
      have j1 : (f : Int) ≤ (g : Int):=by omega
      have j2 : (g : Int) ≤ (s.length : Int):=by omega
      go_wp2_with fail
      go_big_quiet (fail)
      go_wp2_with fail
      go_roundg (gk - 1)
      case measure=>omega
      case rel=>exact ⟨i + 1,by simp,by omega,Go.below_drewN HBn.out _⟩
   ·have HBR:=Lib.hid hBr
    clear hBr
    by_cases hg : gl = 4
    ·subst hg
     obtain ⟨n0,n3,n4,p0⟩:=HRT.out rfl
     replace n0:=keepC HBR.out hlN n0
     replace n3:=keepC HBR.out hlN n3
     replace n4:=keepC HBR.out hlN n4
     replace p0:=keepC HBR.out hlP p0
     go_wp2_with fail
     go_big_quiet ((go_at_call 12;exact Calls.quiet_of_same (HG _)))
     go_wp2_with fail
     go_ret
     exact ⟨rfl,Go.below_drewN (bthen B9.out HBR.out) _⟩
    ·have k2 : ((gl.toNat : Int) == 4) = false:=by
      have : gl.toNat ≠ 4:=fun e=>hg (UInt8.toNat_inj.1 e)
      simp;omega
     have k3 : (gl.toNat == 4) = false:=by
      have : gl.toNat ≠ 4:=fun e=>hg (UInt8.toNat_inj.1 e)
      simp;omega
     have k4 : ((gl.toNat : Int) != 4) = true:=by rw [bne,k2];rfl
     have k5 : (gl.toNat != 4) = true:=by rw [bne,k3];rfl
     have k6 : ¬ ((gl.toNat : Int) = 4):=by simpa using k2
     clear hg
     go_wp2_with fail
     go_big_quiet ((go_at_call 12;exact Calls.quiet_of_same (HG _)))
     go_wp2_with fail
     go_ret
     exact ⟨rfl,Go.below_drewN (bthen B9.out HBR.out) _⟩
end
end Go.Proofs.YtegbdigfbklkaaaGreatDoor
