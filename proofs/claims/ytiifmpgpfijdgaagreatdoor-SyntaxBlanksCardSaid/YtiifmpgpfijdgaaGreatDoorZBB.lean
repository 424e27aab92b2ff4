import Derived.BigQuiet
import Derived.Test.YtiifmpgpfijdgaaGreatDoorQBW
import Derived.Test.YtiifmpgpfijdgaaGreatDoorZBA
namespace Go.Proofs.YtiifmpgpfijdgaaGreatDoor
set_option linter.all false
set_option maxHeartbeats 40000000
set_option maxRecDepth 100000
section
open Go.RowKit
variable {w:World}
attribute [local simp] ByteArray.mk_append_mk
theorem wtx_cut (s:List UInt8) (t:Tk) (h:t.kind≠9):wtx s t=(s.take t.to).drop t.fr:=by unfold wtx;rw [if_neg h,List.drop_take]
theorem text_walk (s:List UInt8) (t:Tk) (h1:t.fr≤t.to) (h2:t.to≤s.length):Calls Tryz.prog 32 #[.string ⟨s.toArray⟩,.agg #[.int .u8 (t.kind.toNat:Int),.int .i64 (t.fr:Int),.int .i64 (t.to:Int)]] w (fun e w'=>e=.returned (.string ⟨(wtx s t).toArray⟩)∧Below w.heap.size w w'):=by
 have hn:=heap_alloc_new w (Obj.cells #[.int .u8 (t.kind.toNat:Int),.int .i64 (t.fr:Int),.int .i64 (t.to:Int)] 62)
 obtain⟨q0,q1,q2,_⟩:=three_cells hn
 have hB:=Lib.hid ((Below.refl w.heap.size w).alloc (Nat.le_refl _) (Obj.cells #[.int .u8 (t.kind.toNat:Int),.int .i64 (t.fr:Int),.int .i64 (t.to:Int)] 62))
 clear hn
 by_cases h9:t.kind=9
 ·have e:wtx s t=[59]:=by unfold wtx;rw [if_pos h9]
  rw [e]
  have d0:(((t.kind.toNat:Nat):Int)==9)=true:=by rw [h9];rfl
  clear h9 e h1 h2
  go_enter Tryz.func32,Tryz.ntmps32
  go_wp2_with fail
  go_ret
  exact⟨rfl,hB.out⟩
 ·have HE:=Lib.hid (wtx_cut s t h9)
  have d0:(((t.kind.toNat:Nat):Int)==9)=false:=by
   rw [beq_eq_false_iff_ne]
   intro e
   exact h9 (UInt8.toNat_inj.1 (by show t.kind.toNat=9;omega))
  have a1:(t.fr:Int)≤(t.to:Int):=by omega
  have a2:(t.to:Int)≤(s.length:Int):=by omega
  have a0:0≤(t.fr:Int):=by omega
  clear h9
  go_enter Tryz.func32,Tryz.ntmps32
  go_wp2_with fail
  go_ret
  exact⟨by rw [HE.out,List.drop_take];simp [ByteArray.extract_mk],hB.out⟩
def cutL (last:Bool) (L:List Tk):List Tk:=if last=true then L else if L.getLast?.map Tk.kind=some 9 then L.dropLast else L
theorem cutL_at {last:Bool}{L:List Tk}{j:Nat}{t:Tk} (h:(cutL last L)[j]?=some t):L[j]?=some t:=by
 unfold cutL at h
 split at h
 ·exact h
 ·split at h
  ·rw [List.getElem?_dropLast] at h
   split at h
   ·exact h
   ·cases h
  ·exact h
theorem wrt_take_le (s:List UInt8) (L:List Tk) (i:Nat):(wrt s (L.take i)).length≤(wrt s L).length:=by
 have:=congrArg List.length (wrt_append s (L.take i) (L.drop i))
 rw [List.take_append_drop,List.length_append] at this
 omega
theorem cutL_pre (last:Bool) (L:List Tk):∃ r,L=cutL last L++r:=by
 unfold cutL
 split
 ·exact⟨[],by simp⟩
 ·split
  ·rcases List.eq_nil_or_concat L with h|⟨a,b,h⟩
   ·exact⟨[],by rw [h];rfl⟩
   ·exact⟨[b],by rw [h];simp⟩
  ·exact⟨[],by simp⟩
theorem written_walk (s:List UInt8) (last:Bool) {L:List Tk} (hr:semiR s=.ok L) (hT:Tabs w):Calls Tryz.prog 19 #[.string ⟨s.toArray⟩,.bool last] w (fun e w'=>e=.returned (.tuple #[.string ⟨(wrt s (cutL last L)).toArray⟩,.bool true])∧Below w.heap.size w w'):=by
 have hS:=fun w hT=>semi_walk (w:=w) s hT
 rw [hr] at hS
 obtain⟨hfit,hcnt,hsl⟩:=semiR_ok hr
 have hwl:=(semi_toks hr).len
 have HS:=Lib.hid hS
 have HT:=Lib.hid hT
 have HF:=Lib.hid hfit
 clear hS hT hr hfit
 obtain⟨L2,hL2⟩:∃ L2,L2=cutL last L:=⟨_,rfl⟩
 rw [← hL2]
 have hat:∀ (j:Nat) (t:Tk),L2[j]?=some t→L[j]?=some t:=fun j t h=>cutL_at (by rw [← hL2];exact h)
 have hwl2:(wrt s L2).length≤262144:=by
  obtain⟨r,e⟩:=cutL_pre last L
  rw [← hL2] at e
  have:=congrArg (fun x=>(wrt s x).length) e
  simp only [wrt_append,List.length_append] at this
  omega
 have hle:L2.length≤L.length:=by
  obtain⟨r,e⟩:=cutL_pre last L
  rw [← hL2] at e
  have:=congrArg List.length e
  rw [List.length_append] at this
  omega
 have HAT:=Lib.hid hat
 have HL2:=Lib.hid hL2
 have HWL:=Lib.hid (And.intro hwl2 hle)
 clear hat hL2 hwl hwl2 hle
 go_enter Tryz.func19,Tryz.ntmps19
 go_upto_region 4 with (go_at_call 31;refine (HS.out _ HT.out).mono ?_;rintro e w1 ⟨tv,rfl,hown,hb1⟩;obtain⟨ta,tc,rfl⟩:=Grd.own_shape hown;unfold faultV)
 have hB:=bthen hb1 ((Below.refl w1.heap.size w1).alloc (Nat.le_refl _) (Obj.cells #[.int .i64 (((0:Nat)):Int),.int .i64 (((0:Nat)):Int)] 28))
 have hO:=hown.alloc (Obj.cells #[.int .i64 (((0:Nat)):Int),.int .i64 (((0:Nat)):Int)] 28)
 have hcap:=Grd.own_cap hown
 rw [show ((((0:Nat)):Int))=0 from rfl] at hB hO
 generalize w1.alloc (Obj.cells #[.int .i64 0,.int .i64 0] 28)=wA at *
 have HB:=Lib.hid hB
 have HO:=Lib.hid hO
 clear hB hO hown hb1
 obtain⟨C,hC⟩:∃ C:Bool,C=(!last&&decide (L.getLast?.map Tk.kind=some 9)):=⟨_,rfl⟩
 have HC:=Lib.hid hC
 clear hC
 go_cut [34] from 18 to 39 (fun v34 wx=>v34=.bool C∧wx=wA)
 case first =>
  cases last with
  | true =>
   have hC2:C=false:=by rw [HC.out];rfl
   subst hC2
   go_wp2_with fail
   go_meet
   exact⟨rfl,rfl⟩
  | false =>
   rcases Nat.eq_zero_or_pos L.length with h0|h0
   ·have hC2:C=false:=by rw [HC.out,List.eq_nil_of_length_eq_zero h0];rfl
    subst hC2
    generalize L.length=n at *
    subst h0
    clear hcnt
    go_wp2_with fail
    go_meet
    exact⟨rfl,rfl⟩
   ·obtain⟨m,hm⟩:∃ m,L.length=m+1:=⟨L.length - 1,by omega⟩
    obtain⟨x,hx⟩:∃ x,L[m]?=some x:=⟨_,List.getElem?_eq_getElem (by omega)⟩
    have hla:L.getLast?=some x:=by rw [List.getLast?_eq_getElem?,hm];exact hx
    have hC2:(((x.kind.toNat:Nat):Int)==9)=C:=by
     rw [HC.out,hla]
     show _=(true&&decide (some x.kind=some 9))
     rw [Bool.true_and,Bool.eq_iff_iff]
     simp only [beq_iff_eq,decide_eq_true_eq,Option.some.injEq]
     constructor
     ·intro e;exact UInt8.toNat_inj.1 (by show x.kind.toNat=9;omega)
     ·intro e;rw [e];rfl
    obtain⟨b,rfl,_,_,hcb⟩:=cell_of_row HO.out (tokV_at hx).1
    have e0:decide ((0:Int) < (L.length:Int))=true:=by simp;omega
    have hw1:IntKind.i64.wrap ((L.length:Int) - 1)=(m:Int):=by rw [hm];simp [IntKind.wrap,IntKind.bits,IntKind.signed];omega
    have hm0:0≤(m:Int):=by omega
    have hm1:(m:Int) < (L.length:Int):=by omega
    generalize L.length=n at *
    clear h0 hm hla hx hcnt
    go_wp2_with fail
    go_meet
    exact⟨rfl,rfl⟩
 case rest =>
  obtain⟨rfl,hw⟩:=hcut
  replace hw:=hw.symm
  subst hw
  go_upto_if 34 with fail
  go_cut [6] from 35 to 39 (fun v6 wx=>v6=.slice ta L2.length tc∧wx=wA)
  case first =>
   cases C with
   | true =>
    have e2:L2=L.dropLast∧0 < L.length:=by
     have h:=HC.out
     have hl:=HL2.out
     unfold cutL at hl
     cases last with
     | true=>cases h
     | false =>
      have h:L.getLast?.map Tk.kind=some 9:=by simpa using h.symm
      rw [if_neg (by decide),if_pos h] at hl
      refine⟨hl,?_⟩
      cases L with
      | nil=>cases h
      | cons x r=>simp
    obtain⟨m,hm⟩:∃ m,L.length=m+1:=⟨L.length - 1,by omega⟩
    have h2:L2.length=m:=by rw [e2.1,List.length_dropLast,hm];rfl
    have hw1:IntKind.i64.wrap ((L.length:Int) - 1)=(m:Int):=by rw [hm];simp [IntKind.wrap,IntKind.bits,IntKind.signed];omega
    have hm0:0≤(m:Int):=by omega
    have hm1:(m:Int)≤(tc:Int):=by omega
    have H2:=Lib.hid h2
    clear h2 e2 hm
    generalize L.length=n at *
    clear hcnt hcap
    go_wp2_with fail
    go_meet
    exact⟨by rw [H2.out],rfl⟩
   | false =>
    have h2:L2=L:=by
     have h:=HC.out
     have hl:=HL2.out
     unfold cutL at hl
     cases last with
     | true=>exact hl
     | false =>
      have h:¬ L.getLast?.map Tk.kind=some 9:=by simpa using h.symm
      rw [if_neg (by decide),if_neg h] at hl
      exact hl
    have H2:=Lib.hid h2
    clear h2
    go_wp2_with fail
    go_meet
    exact⟨by rw [H2.out],rfl⟩
  case rest =>
   obtain⟨rfl,hw⟩:=hcut
   replace hw:=hw.symm
   subst hw
   go_wp2_with fail
   go_loopg [8,9] L2.length (fun q v8 v9 wr=>∃ i:Nat,v9=.int .i64 (i:Int)∧i+q=L2.length∧v8=.string ⟨(wrt s (L2.take i)).toArray⟩∧Below wA.heap.size wA wr)
   case atStart=>exact⟨0,rfl,by omega,by rw [List.take_zero];rfl,Below.refl _ _⟩
   case round =>
    obtain⟨i,rfl,hq,rfl,hbl⟩:=hrel
    have hll:=HWL.out.2
    by_cases hi:i < L2.length
    ·obtain⟨x,hx⟩:∃ x,L2[i]?=some x:=⟨_,List.getElem?_eq_getElem hi⟩
     have hxL:=HAT.out i x hx
     obtain⟨c0,c1,c2⟩:=tokV_at hxL
     obtain⟨b,rfl,_,hbs,d0⟩:=cell_of_row HO.out c0
     obtain⟨b',e',_,_,d1⟩:=cell_of_row HO.out c1
     obtain⟨b'',e'',_,_,d2⟩:=cell_of_row HO.out c2
     cases e';cases e''
     have d0:=keepC hbl hbs d0
     have d1:=keepC hbl hbs d1
     have d2:=keepC hbl hbs d2
     obtain⟨f1,f2,_⟩:=HF.out x (List.mem_of_getElem? hxL)
     have HTX:=Lib.hid (fun w=>text_walk (w:=w) s x f1 f2)
     have HWS:Hid (wrt s (L2.take (i+1))=wrt s (L2.take i)++32::wtx s x):=Lib.hid (by rw [take_step hx,wrt_append];simp [wrt])
     have hlen1:(wrt s (L2.take i)).length≤262144:=Nat.le_trans (wrt_take_le s L2 i) HWL.out.1
     have hlen2:(wtx s x).length≤262144:=by
      have h1:=Nat.le_trans (wrt_take_le s L2 (i+1)) HWL.out.1
      rw [HWS.out,List.length_append,List.length_cons] at h1
      omega
     generalize wrt s (L2.take i)=A at *
     generalize wtx s x=X at *
     clear hx hxL c0 c1 c2
     obtain⟨kd,fr,te⟩:=x
     have d0:wr.cell? ⟨b,i*3,none⟩=some (.int .u8 (kd.toNat:Int)):=d0
     have d1:wr.cell? ⟨b,i*3+1,none⟩=some (.int .i64 (fr:Int)):=d1
     have d2:wr.cell? ⟨b,i*3+2,none⟩=some (.int .i64 (te:Int)):=d2
     have f1:fr≤te:=f1
     have f2:te≤s.length:=f2
     have g1:decide ((fr:Int) < 0)=false:=decide_eq_false (by omega)
     have g2:decide ((te:Int) < (fr:Int))=false:=decide_eq_false (by omega)
     have g2n:decide (te < fr)=false:=decide_eq_false (by omega)
     have g3n:decide (s.length < te)=false:=decide_eq_false (by omega)
     have i1n:decide (i < L2.length)=true:=by simpa using hi
     have g3:decide ((s.length:Int) < (te:Int))=false:=decide_eq_false (by omega)
     have i0:(0:Int)≤(i:Int):=by omega
     have i1:(i:Int) < (L2.length:Int):=by omega
     have i2:i < 131072:=by omega
     have HQ:=Lib.hid hq
     generalize L2.length=n2 at *
     clear f1 f2 hll hcnt hq
     go_wp2_with fail
     go_big_quiet (fail)
     go_wp2_with (go_at_call 32;refine (HTX.out _).mono ?_;rintro e w6 ⟨rfl,hb6⟩;have hbl:=bthen (Go.below_drewN hbl _) hb6;clear hb6)
     go_roundg (gk - 1)
     case measure=>have:=HQ.out;omega
     case rel=>exact⟨i+1,by simp,by have:=HQ.out;omega,by rw [HWS.out],hbl⟩
    ·have hil:i=L2.length:=by omega
     have hte:L2.take i=L2:=by rw [hil,List.take_length]
     rw [hte]
     have i1n:decide (i < L2.length)=false:=decide_eq_false (by omega)
     have HB2:=Lib.hid (bthen HB.out hbl)
     generalize L2.length=n2 at *
     clear hte hq hil hi hll
     go_wp2_with fail
     go_ret2
     exact⟨rfl,HB2.out⟩
end
section
open Go.RowKit
variable {w:World}
theorem parts_few {goal:UInt8}{s:List UInt8}{l:List Tk}{t:Tr} (h:readT nestN goal s=.ok l t):(parts ⟨s,l,[]⟩ t).length≤100000000:=by
 obtain⟨p,m,hN,ht⟩:=readT_ok h
 have h1:=treeT_cnt ht
 have h2:=(semiR_ok (nestN_semi hN)).2.1
 rw [parts_len]
 simp only at h1
 omega
theorem blanks_law (n:UInt8) (s:List UInt8) (hT:Tabs w):Calls Tryz.prog 9 #[.int .u8 (n.toNat:Int),.string ⟨s.toArray⟩] w (fun e w'=>e=.returned (.bool true)∧Below w.heap.size w w'):=by
 have HG:=fun w=>goal_walk (w:=w) n
 obtain⟨gl,hgl⟩:∃ gl,gl=goalB n:=⟨_,rfl⟩
 rw [← hgl] at HG
 have HM0:=fun w h=>term_any gl s w h
 obtain⟨r,hr⟩:∃ r,r=readT nestN gl s:=⟨_,rfl⟩
 rw [← hr] at HM0
 have HR:=Lib.hid hr
 obtain⟨er,her⟩:∃ er,er=(errR r).1:=⟨_,rfl⟩
 obtain⟨ea,hea⟩:∃ ea,ea=(errR r).2:=⟨_,rfl⟩
 rw [← her,← hea] at HM0
 have HE:=Lib.hid (And.intro her hea)
 have HM:=Lib.hid HM0
 have HX:=Lib.hid (fun w h=>fixed_walk (w:=w) h)
 have HT:=Lib.hid hT
 clear hgl hT hr her hea HM0
 go_enter Tryz.func9,Tryz.ntmps9
 go_upto_region 2 with (first|(go_at_call 18;refine (HG _).mono ?_;rintro e w1 ⟨rfl,hw1⟩;replace hw1:=hw1.symm;subst hw1)|(go_at_call 15;refine (HM.out _ HT.out).mono ?_;rintro e w2 ⟨pa1,pn1,pc1,rfl,hq1,hb1⟩))
 obtain⟨OF,hOF⟩:∃ O,O=Obj.cells #[.int .i64 (er:Int),.int .i64 (ea:Int)] 28 (0,0):=⟨_,rfl⟩
 rw [← hOF]
 have A1:=heap_alloc_new w2 OF
 have bA:=(Below.refl w2.heap.size w2).alloc (Nat.le_refl _) OF
 have BA:=hb1.trans (bA.mono hb1.size)
 have HQ1:=Lib.hid (And.intro hq1 bA)
 clear hq1 hb1 bA
 generalize w2.alloc OF=wA at *
 rw [hOF] at A1
 obtain⟨f1,f2,_,_⟩:=two_cells A1
 clear A1 hOF
 have HTB:=Lib.hid (fun w' (hb:Below wA.heap.size wA w')=>HT.out.below (bthen BA hb))
 have HBA:=Lib.hid BA
 have hbl:=Below.refl wA.heap.size wA
 clear BA
 cases r with
 | bad e0 a0 =>
  obtain⟨h1,h2⟩:=HE.out
  have hne:e0≠0:=readT_ne nest_law HR.out.symm
  have h3:er=e0:=h1
  have h4:ea=a0:=h2
  subst h3;subst h4
  have k1:(er==0)=false:=by simpa using hne
  have k2:((er:Int)==0)=false:=by simp;omega
  have k3:(er != 0)=true:=by simpa using hne
  have k4:((er:Int) != 0)=true:=by simp;omega
  clear h1 h2 hne
  go_wp2_with (go_at_call 12;refine (HX.out _ (HTB.out _ hbl)).mono ?_;rintro e w9 ⟨rfl,hb9⟩;replace f1:=keepCell hb9 f1;replace f2:=keepCell hb9 f2;replace hbl:=bthen hbl hb9;clear hb9)
  go_ret
  exact⟨rfl,bthen HBA.out hbl⟩
 | ok l t =>
  obtain⟨h1,h2⟩:=HE.out
  have h3:er=0:=h1
  have h4:ea=0:=h2
  subst h3;subst h4
  clear h1 h2
  by_cases hlen:s.length≤3000
  ·have d1:decide ((3000:Int) < (s.length:Int))=false:=decide_eq_false (by omega)
   have d1n:decide (3000 < s.length)=false:=decide_eq_false (by omega)
   have hl16:s.length≤16000:=by omega
   obtain⟨p,m0,hN,_⟩:=readT_ok HR.out.symm
   have hS:=nestN_semi hN
   obtain⟨hR2,hP2⟩:=read_wr HR.out.symm hl16
   have HW:=Lib.hid (fun w h=>written_walk (w:=w) s true hS h)
   rw [show cutL true l=l from rfl] at HW
   have HM2:=fun w h=>term_any gl (wrt s l) w h
   rw [hR2,show (errR (ReadR.ok (wtk s 0 l) t)).1=0 from rfl,show (errR (ReadR.ok (wtk s 0 l) t)).2=0 from rfl] at HM2
   have HM2:=Lib.hid HM2
   have HP2:=Lib.hid hP2
   clear hN hS hR2 hP2 hlen hl16
   go_upto_region 4 with (go_at_call 12;refine (HX.out _ (HTB.out _ hbl)).mono ?_;rintro e w9 ⟨rfl,hb9⟩;replace f1:=keepCell hb9 f1;replace f2:=keepCell hb9 f2;replace hbl:=bthen hbl hb9;clear hb9)
   clear f1 f2
   go_upto_region 5 with (go_at_call 19;refine (HW.out _ (HTB.out _ hbl)).mono ?_;rintro e w10 ⟨rfl,hb9⟩;replace hbl:=bthen hbl hb9;clear hb9)
   go_upto_region 6 with (first|(go_at_call 18;refine (HG _).mono ?_;rintro e w1 ⟨rfl,hw1⟩;replace hw1:=hw1.symm;subst hw1)|(go_at_call 15;refine (HM2.out _ (HTB.out _ hbl)).mono ?_;rintro e w12 ⟨pa2,pn2,pc2,rfl,hq2,hb2⟩))
   have B1:=heap_alloc_new w12 (Obj.cells #[.int .i64 0,.int .i64 0] 28)
   have bB:=(Below.refl w12.heap.size w12).alloc (Nat.le_refl _) (Obj.cells #[.int .i64 0,.int .i64 0] 28)
   generalize w12.alloc (Obj.cells #[.int .i64 0,.int .i64 0] 28)=wB at *
   obtain⟨f1,f2,_,_⟩:=two_cells B1
   obtain⟨q1,bA⟩:=HQ1.out
   have q1:w2.ownsRow w.heap.size 40 3 (.slice pa1 pn1 pc1) (parts ⟨s,l,[]⟩ t).length (pt3sV (parts ⟨s,l,[]⟩ t)):=q1
   have q2:w12.ownsRow w10.heap.size 40 3 (.slice pa2 pn2 pc2) (parts ⟨wrt s l,wtk s 0 l,[]⟩ t).length (pt3sV (parts ⟨wrt s l,wtk s 0 l,[]⟩ t)):=hq2
   rw [HP2.out] at q2
   have hbB:=bthen hbl (bthen hb2 bB)
   have e1:pn1=(parts ⟨s,l,[]⟩ t).length:=by obtain⟨_,_,e⟩:=Grd.own_shape q1;cases e;rfl
   have e2:pn2=(parts ⟨s,l,[]⟩ t).length:=by obtain⟨_,_,e⟩:=Grd.own_shape q2;cases e;rfl
   have r1:=own_fr q1 ((Fr.below (X:=[]) bA).trans (Fr.below hbB)) (by simp)
   have r2:=own_fr q2 (Fr.below (X:=[]) bB) (by simp)
   have hcnt:((parts ⟨s,l,[]⟩ t).map ptG).length≤1099511627776:=by
    have h1:=parts_few HR.out.symm
    rw [List.length_map]
    omega
   subst e1
   have e2':(parts ⟨s,l,[]⟩ t).length=((parts ⟨s,l,[]⟩ t).map ptG).length:=by rw [List.length_map]
   have p1:=parts_at r1 rfl
   subst e2
   have p2:=parts_at r2 rfl
   have hS:=same_walk (w:=wB) pa1 pa2 pc1 pc2 ((parts ⟨s,l,[]⟩ t).map ptG) hcnt p1 p2
   rw [← e2'] at hS
   have HS:=Lib.hid hS
   have HEND:=Lib.hid (bthen HBA.out hbB)
   generalize (parts ⟨s,l,[]⟩ t).length=np at *
   clear hq2 hb2 bB q1 q2 bA r1 r2 hcnt e2' p1 p2 hS hbl hbB B1
   go_wp2_with (go_at_call 17;refine (HS.out).mono ?_;rintro e w13 ⟨rfl,hb9⟩;have HEND:=Lib.hid (bthen HEND.out hb9);clear hb9)
   go_ret
   exact⟨rfl,HEND.out⟩
  ·have d1:decide ((3000:Int) < (s.length:Int))=true:=decide_eq_true (by omega)
   have d1n:decide (3000 < s.length)=true:=decide_eq_true (by omega)
   clear hlen
   go_wp2_with (go_at_call 12;refine (HX.out _ (HTB.out _ hbl)).mono ?_;rintro e w9 ⟨rfl,hb9⟩;replace f1:=keepCell hb9 f1;replace f2:=keepCell hb9 f2;replace hbl:=bthen hbl hb9;clear hb9)
   go_ret
   exact⟨rfl,bthen HBA.out hbl⟩
end
end Go.Proofs.YtiifmpgpfijdgaaGreatDoor
