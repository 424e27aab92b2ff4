import Derived.Test.YtjdllofmhglmiaaGreatDoorQAK
namespace Go.Proofs.YtjdllofmhglmiaaGreatDoor
open Lib(hid)
set_option linter.all false
set_option maxHeartbeats 40000000
set_option maxRecDepth 100000
section
open Go.RowKit
variable {w:World}
def YV:Option Nat->Int
 | none=>-1
 | some n=>n
structure AF (b7 b8:Nat) (wB:World) (E:Option Nat) (out:List Tk) (w:World):Prop where
 lt:b7 < b8
 box7:∃ ov,w.heap[b7]?=some (.cells #[ov] 34 (0,0))/\w.ownsRow (b8+1) 56 3 ov out.length (BF out)
 box8:w.heap[b8]?=some (.cells #[i8 (YV E)] 3 (0,0))
 bel:Below b7 wB w
variable {b7 b8:Nat}{wB:World}{E:Option Nat}{out:List Tk}
theorem AF.later {w':World} (h:AF b7 b8 wB E out w) (hb:Below w.heap.size w w'):AF b7 b8 wB E out w':=by
 obtain⟨ov,h1,h2⟩:=h.box7;exact⟨h.lt,⟨ov,(hb.block _ (lt_of_block h1)).trans h1,LD h2 hb⟩,(hb.block _ (lt_of_block h.box8)).trans h.box8,h.bel.trans (hb.mono (by have:=lt_of_block h1;omega))⟩
theorem AF.ends (h:AF b7 b8 wB E out w) (E':Option Nat):AF b7 b8 wB E' out (w.setCell (y8 b8 0) (i8 (YV E'))):=by
 obtain⟨ov,h1,h2⟩:=h.box7;have:=h.lt;refine⟨h.lt,⟨ov,?_,rA h2 _ Cu _⟩,?_,h.bel.setCell (p:=(y8 b8 0)) Cv _⟩
 ·rw [Ah _ _ _ _ Cv];exact h1
 ·have:=heap_setCell_same w b8 0 _ _ (i8 (YV E')) h.box8;simpa using this
theorem FC {b:Nat}{x:Value}{T:TypeId} (h:w.heap[b]?=some (.cells #[x] T (0,0))):w.cell? (y8 b 0)=some x/\w.frozen? (y8 b 0)=false:=by
 refine⟨?_,?_⟩
 all_goals first
  | (unfold World.cell?;rw [h];rfl)
  | (unfold World.frozen?;rw [h];rfl)
theorem AF.push {w1 w2:World}{ov v':Value}{n:Nat}{xs:List Value}{t:Tk} (h:AF b7 b8 wB E out w1) (h7:w1.heap[b7]?=some (.cells #[ov] 34 (0,0))) (hown:w1.ownsRow (b8+1) 56 3 ov out.length (BF out)) (hg:w1.grownBy w2 ov.ownBlock) (hown':w2.ownsRow (b8+1) 56 3 v' n xs) (hn:n=out.length+1) (hx:xs=BF out++BF [t]) :
  AF b7 b8 wB E (out++[t]) (w2.setCell (y8 b7 0) v'):=by
 have hlt:=h.lt;have k7:=(hg.block b7 (lt_of_block h7) (fun e=>Et)).trans h7;have k8:=(hg.block b8 (lt_of_block h.box8) (fun e=>Et)).trans h.box8;have hB:Below b7 wB w2:=h.bel.grown hg (by have:=lt_of_block h7;omega) (fun j hj=>by have:=(hown.lt _ hj).1;omega);subst hn hx;refine⟨h.lt,⟨v',?_,?_⟩,?_,hB.setCell (p:=(y8 b7 0)) (C' _) _⟩
 ·have:=heap_setCell_same w2 b7 0 _ _ v' k7;simpa using this
 ·rw [GH,V'];exact rA hown' _ Cv _
 ·rw [Ah _ _ _ _ Cv];exact k8
def QD (st:Option Nat × List Tk):List Tk:=match st.1 with
 | none=>st.2
 | some n=>st.2++[⟨9,n,n⟩]
theorem aL (h:AF b7 b8 wB E out w) (hsm:out.length<=1000000):Calls Tryz.prog 105 #[p8 b8,p8 b7] w (fun e w'=>e=.returned (.tuple #[])/\AF b7 b8 wB none (QD (E,out)) w'):=by
 obtain⟨iT,hiT,hz0,hz1,hz2⟩:=info_parts Tryz.infoTok;obtain⟨ov,h7,hown⟩:=h.box7;obtain⟨c7,f7⟩:=FC h7;obtain⟨c8,f8⟩:=FC h.box8;cases E with
 | none =>
  have d0:YV none=-1:=rfl;rw [d0] at c8;have HH:=hid h;clear hown h7 h d0
  go_in
  go_wp2_with fail;go_end0;exact⟨rfl,HH.out.ends none⟩
 | some n =>
  have d0:YV (some n)=(n:Int):=rfl;rw [d0] at c8;have HH:=hid h;obtain⟨va,vn,vc,rfl⟩:=ND hown;have hlt:=h.lt;have hl7:=lt_of_block h7;have hl8:=lt_of_block h.box8;clear h d0
  go_in
  go_wp2_with (at_builtin;refine wpList_append_lies _ rfl _ _ 34 rfl (b8+1) 56 iT _ 3 24 Tryz.underToks hiT hz0 hz1 hz2 rfl Ct (.slice va vn vc) out.length (BF out) rfl (hown.alloc _) ⟨w.heap.size,0,none⟩ 1 1 [.int .u8 9,i8 (n:Int),i8 (n:Int)] rfl rfl (At (B8 _ _)) Dq Ct Da Cs Cv _ rfl ?_;intro g cap w6 hown6 hgrow6 hat6 hlt6;have hs6:=AF.push (t:=⟨9,n,n⟩) (AF.later HH.out ((N' w.heap.size w).alloc (C' _) _)) ((Af _ _ _ hl7).trans h7) (hown.alloc _) hgrow6 hown6 rfl rfl;have k7:=(hgrow6.block b7 Cv (fun e=>Et)).trans ((Af _ _ _ hl7).trans h7);obtain⟨m7,n7⟩:=FC k7;have hs8:=hs6.box8;obtain⟨m8,n8⟩:=FC hs8;have HS6:=hid hs6;clear hs6 hs8 k7 hgrow6 hown6);go_end0;exact⟨rfl,HS6.out.ends none⟩
theorem bE {base n S:Nat}{T:TypeId}{v:Value}{xs:List Value} (h:w.ownsRow base T S v n xs):∃ a k,v=.slice a n k:=by
 rcases h.2 with ⟨h1,h2⟩|⟨g,cap,cur,e1,_⟩
 ·exact⟨_,_,by rw [h1,h2]⟩
 ·exact⟨_,_,e1⟩
def oG (s:List UInt8) (t:Tk):List UInt8:=(s.drop t.fr).take (t.to - t.fr)
def nlB (t:List UInt8):Bool:=decide (0<=Lib.indexByte t 10)
def GE (s:List UInt8) (t:Tk) (st:Option Nat × List Tk):Option Nat × List Tk :=
 if kJ t.kind then (if nlB (oG s t) then (none,QD st) else st) else (if vP t.kind (oG s t) then some t.to else none,st.2++[t])
def jG (s:List UInt8):List Tk->Option Nat × List Tk->Option Nat × List Tk
 | [],st=>st
 | t::r,st=>jG s r (GE s t st)
def wH (s:List UInt8):ZT:=match cK s with
 | .bad e a=>.bad e a
 | .ok l=>.ok (QD (jG s l (none,[])))
theorem ZR (l:List UInt8):∀ f k acc r,VG l f k acc=.ok r->(∀ t∈acc,t.fr < t.to/\t.to<=l.length)->k<=l.length->acc.length<=k->(∀ t∈r,t.fr < t.to/\t.to<=l.length)/\r.length<=l.length
 | 0,k,acc,r,h,ha,hk,hn=>by
  rw [VG] at h;cases h;exact⟨ha,Cs⟩
 | f+1,k,acc,r,h,ha,hk,hn=>by
  rw [VG] at h;split at h
  ·rename_i hkl;split at h
   ·cases h
   ·rename_i hz;obtain⟨_,_,h3,h4⟩:=fM hkl hz;refine ZR l f _ _ r h (fun t ht=>?_) h4 Jx;rw [List.mem_append,List.mem_singleton] at ht;rcases ht with ht|rfl
    ·exact ha t ht
    ·exact⟨h3,h4⟩
  ·cases h;exact⟨ha,Cs⟩
theorem lS {l:List UInt8}{r:List Tk} (h:cK l=.ok r):(∀ t∈r,t.fr < t.to/\t.to<=l.length)/\r.length<=l.length/\l.length<=65536:=by
 unfold cK at h;split at h
 ·cases h
 ·split at h
  ·cases h
  ·obtain⟨h1,h2⟩:=ZR l _ _ _ r h (fun t ht=>by cases ht) (Nat.zero_le _) (C' _);exact⟨h1,h2,Cs⟩
theorem WO {l:List UInt8}{e a:Nat}:∀ {f k acc},VG l f k acc=.bad e a->e=4/\a < l.length
 | 0,_,_,h=>by rw [VG] at h;cases h
 | f+1,k,acc,h=>by
  rw [VG] at h;split at h
  ·split at h
   ·cases h;exact⟨rfl,Dt⟩
   ·exact WO h
  ·cases h
theorem eQ {l:List UInt8}{e a:Nat} (h:cK l=.bad e a):(e=2∨e=3∨e=4)/\a<=l.length:=by
 unfold cK at h;split at h
 ·cases h;exact⟨.inl rfl,Nat.zero_le _⟩
 ·split at h
  ·have:=QN l;cases h;exact⟨.inr (.inl rfl),Cs⟩
  ·obtain⟨h1,h2⟩:=WO h;exact⟨.inr (.inr h1),Cs⟩
theorem uJ (s:List UInt8) (t:Tk) (st:Option Nat × List Tk) (i:Nat) (h:st.2.length+(if st.1.isSome then 1 else 0)<=2*i):(GE s t st).2.length+(if (GE s t st).1.isSome then 1 else 0)<=2*(i+1):=by
 obtain⟨E,out⟩:=st;unfold GE;split
 ·split
  ·cases E <;> simp [QD] at h ⊢ <;> omega
  ·exact An h Cs
 ·simp only [V',Ae,Am];split <;> split <;> simp at h ⊢ <;> omega
theorem DT (s:List UInt8) (hT:NC w):Calls Tryz.prog 67 #[.string ⟨s.toArray⟩] w (TI (wH s) w):=by
 have h0:=B8 w (Obj.cells #[i8 0,i8 0] 28);have hB0:=(N' w.heap.size w).alloc (C' _) (Obj.cells #[i8 0,i8 0] 28);have HA:=fun (w1:World) h=>pV (w:=w1) s h
 have HT:=hid hT;clear hT;have hR:wH s=match cK s with
  | .bad e a=>.bad e a
  | .ok l=>.ok (QD (jG s l (none,[]))):=rfl
 rw [hR];clear hR;have hlt0:=lt_of_block h0;cases hA:cK s with
 | bad er a =>
  obtain⟨her,_⟩:=eQ hA;rw [hA] at HA;have hne:((er:Nat):Int)≠0:=Cs
  have hne2:(((er:Nat):Int)==0)=false:=Ex
  unfold TI qA at HA
  go_in
  go_upto_region 1 with fail;generalize w.alloc (Obj.cells #[i8 0,i8 0] 28)=wA at *;go_wp2_with (go_at_call 103;refine (HA wA (HT.out.below hB0)).mono ?_;rintro e w1 ⟨rfl,hb⟩;have k6:=(hb.block _ hlt0).trans h0;have hBw:=dA hB0 hb;clear hb);have h3:=(Af w1 (Obj.cells #[i8 (er:Int),i8 (a:Int)] 28) w.heap.size (lt_of_block k6)).trans k6;have h4:=B8 w1 (Obj.cells #[i8 (er:Int),i8 (a:Int)] 28);have hB2:=hid (hBw.alloc hBw.size (Obj.cells #[i8 (er:Int),i8 (a:Int)] 28));have HS:=hid (show w.heap.size≠w1.heap.size by have:=lt_of_block k6;omega);clear h0 hB0 k6 hBw;generalize w1.alloc (Obj.cells #[i8 (er:Int),i8 (a:Int)] 28)=w2 at *;obtain⟨c0,c1,f0,f1⟩:=tA h3;obtain⟨e0,e1,_⟩:=tA h4;have u9:=hid (VD h3 (i8 (er:Int)) (i8 (a:Int)));clear h3 h4;go_region
  all_goals (go_wp2_with fail)
  all_goals
   have HB9:=hid ((hB2.out.setCell (p:=(y8 w.heap.size 0)) (C' _) (i8 (er:Int))).setCell (p:=(y8 w.heap.size 1)) (C' _) (i8 (a:Int)));obtain⟨q0,q1,_⟩:=tA u9.out;generalize (w2.setCell (y8 w.heap.size 0) (i8 (er:Int))).setCell (y8 w.heap.size 1) (i8 (a:Int))=w9 at *;refine Ca (v:=.tuple #[.slice none 0 0,qA er a]) ?_ rfl ⟨rfl,HB9.out.drew⟩;simp [results,Tryz.results67,go_sem,q0,q1,qA]
 | ok l =>
  obtain⟨hfit,hlen,hs⟩:=lS hA;rw [hA] at HA;unfold TI qA at HA
  show Calls _ _ _ _ (TI (.ok (QD (jG s l (none,[])))) w)
  obtain⟨R,hRR⟩:∃ R,R=jG s l (none,[]):=⟨_,rfl⟩;rw [<- hRR];have HRR:=hid hRR;obtain⟨iT,hiT,hz0,hz1,hz2⟩:=info_parts Tryz.infoTok;clear hRR
  go_in
  go_upto_region 1 with fail;generalize w.alloc (Obj.cells #[i8 0,i8 0] 28)=wA at *;go_wp2_with (go_at_call 103;refine (HA wA (HT.out.below hB0)).mono ?_;rintro e w1 ⟨tv,rfl,hrow,hb⟩;obtain⟨va,vc,rfl⟩:=bE hrow;have k6:=(hb.block _ hlt0).trans h0;have hBw:=dA hB0 hb;clear hb);have hbase:=hBw.size;have HC:=hid (Az hrow (Az k6 hBw));have hW0:AF (w1.heap.size+1) (w1.heap.size+1+1) (w1.alloc (Obj.cells #[i8 0,i8 0] 28)) none [] (((w1.alloc (Obj.cells #[i8 0,i8 0] 28)).alloc (Obj.cells #[.slice none 0 0] 34)).alloc (Obj.cells #[i8 (-1)] 3)):=by
   have hs1:(w1.alloc (Obj.cells #[i8 0,i8 0] 28)).heap.size=w1.heap.size+1:=Cu
   have hs2:((w1.alloc (Obj.cells #[i8 0,i8 0] 28)).alloc (Obj.cells #[.slice none 0 0] 34)).heap.size=w1.heap.size+1+1:=Cu
   have e7:=B8 (w1.alloc (Obj.cells #[i8 0,i8 0] 28)) (Obj.cells #[.slice none 0 0] 34);have e8:=B8 ((w1.alloc (Obj.cells #[i8 0,i8 0] 28)).alloc (Obj.cells #[.slice none 0 0] 34)) (Obj.cells #[i8 (-1)] 3);rw [hs1] at e7;rw [hs2] at e8;exact⟨Cs,⟨.slice none 0 0,(Af _ _ _ (by rw [hs2];omega)).trans e7,rfl,.inl ⟨rfl,rfl⟩⟩,e8,((N' _ _).alloc (by rw [hs1];exact C' _) _).alloc (by rw [hs2];omega) _⟩
  clear hrow k6 hBw h0 hB0 hlt0 HT HA
  go_loopg [25] l.length (fun j v25 wr=>∃ (i:Nat) (E:Option Nat) (out:List Tk),v25=i8 (i:Int)/\i+j=l.length/\AF (w1.heap.size+1) (w1.heap.size+1+1) (w1.alloc (Obj.cells #[i8 0,i8 0] 28)) E out wr/\jG s (l.drop i) (E,out)=R/\out.length+(if E.isSome then 1 else 0)<=2*i)
  case atStart=>exact⟨0,none,[],rfl,Cs,hW0,HRR.out.symm,C' _⟩
  case round =>
   obtain⟨i,E,out,rfl,hj,hS,hF,hn⟩:=hrel;by_cases hi:i < l.length
   ·have d2:decide ((i:Int) < (l.length:Int))=true:=by simpa using hi
    obtain⟨t,ht⟩:∃ t,l[i]?=some t:=⟨l[i],O' hi⟩;obtain⟨hf1,hf2⟩:=hfit t (List.mem_of_getElem? ht);obtain⟨x0,x1,x2⟩:=lH ht;obtain⟨b,hva,_,hbl,y0⟩:=GA HC.out.1 x0;obtain⟨b',e',_,_,y1⟩:=GA HC.out.1 x1;obtain⟨b'',e'',_,_,y2⟩:=GA HC.out.1 x2;subst hva;cases e';cases e'';have kp:∀ o v,w1.cell? (y8 b o)=some v->wr.cell? (y8 b o)=some v:=fun o v h=>(hS.bel.cell (p:=(y8 b o)) Cv).trans ((((N' w1.heap.size w1).alloc (C' _) (Obj.cells #[i8 0,i8 0] 28)).cell (p:=(y8 b o)) hbl).trans h)
    have z0:=kp _ _ y0;have z1:=kp _ _ y1;have z2:=kp _ _ y2;have hdr:l.drop i=t::l.drop (i+1):=by
     exact zdt
    rw [hdr,jG] at hF;have hn2:=uJ s t (E,out) i hn;obtain⟨st,hst⟩:∃ st,st=GE s t (E,out):=⟨_,rfl⟩;rw [<- hst] at hF hn2;have HSt:=hid (Az hst (Az hF (Az hn2 hS)));have hsw:st=if kJ t.kind then (if nlB (oG s t) then (none,QD (E,out)) else (E,out)) else (if vP t.kind (oG s t) then some t.to else none,out++[t]):=hst
    have hns:out.length<=1000000:=by split at hn <;> omega
    have hcon:=fun w=>Tryz.strings_Contains_one ⟨(oG s t).toArray⟩ 10 w
    have hcn:decide (0<=Lib.indexByte (oG s t) 10)=nlB (oG s t):=rfl;simp only [hcn] at hcon;have hnw:=B8 wr (Obj.cells #[.int .u8 (t.kind.toNat:Int),i8 (t.fr:Int),i8 (t.to:Int)] 56);have hS3:=hS.later ((N' wr.heap.size wr).alloc (C' _) (Obj.cells #[.int .u8 (t.kind.toNat:Int),i8 (t.fr:Int),i8 (t.to:Int)] 56));obtain⟨t0,t1,t2,g0,g1,g2⟩:=uA hnw;have htx:(s.drop t.fr).take (t.to - t.fr)=oG s t:=rfl;have q1:(t.fr:Int)<=(t.to:Int):=Cs
    have q2:(t.to:Int)<=(s.length:Int):=Cs
    have hSl:=fun w=>TO t.kind (t.fr:Int) (t.to:Int) (w:=w)
    have hEn:=fun w=>lT t.kind (oG s t) (w:=w)
    clear hF hst hS y0 y1 y2 x0 x1 x2 kp hdr;generalize hgt:oG s t=tx at *;generalize nlB tx=nl at *;generalize vP t.kind tx=eb at *;generalize kJ t.kind=sb at *;have hbig:=lt_of_block hS3.box8;have hbig2:=HSt.out.2.2.2.box8;have hbig3:=lt_of_block hbig2;clear hbig hbig2;cases sb with
    | true =>
     cases nl with
     | true =>
      go_wp2_with (first|(go_at_call 104;refine (hSl _).mono ?_;rintro e w4 ⟨rfl,hb4⟩)|(go_at_call 106;refine (hcon _).mono ?_;rintro e w5 ⟨rfl,rfl⟩)|(go_at_call 105;refine (aL (AF.later hS3 hb4) hns).mono ?_;rintro e w6 ⟨rfl,hS6⟩));obtain⟨_,hF2,hn3,_⟩:=HSt.out;have hsw2:st=(none,QD (E,out)):=hsw;subst hsw2;go_roundg (gk - 1)
      case measure=>omega
      case rel=>exact⟨i+1,none,QD (E,out),Cu,Cs,hS6,hF2,hn3⟩
     | false =>
      go_wp2_with (first|(go_at_call 104;refine (hSl _).mono ?_;rintro e w4 ⟨rfl,hb4⟩)|(go_at_call 106;refine (hcon _).mono ?_;rintro e w5 ⟨rfl,rfl⟩));obtain⟨_,hF2,hn3,_⟩:=HSt.out;have hsw2:st=(E,out):=hsw;subst hsw2;go_roundg (gk - 1)
      case measure=>omega
      case rel=>exact⟨i+1,E,out,Cu,Cs,AF.later hS3 hb4,hF2,hn3⟩
    | false =>
     cases eb with
     | true =>
      go_wp2_with (first|(go_at_call 104;refine (hSl _).mono ?_;rintro e w4 ⟨rfl,hb4⟩;have hS4:=AF.later hS3 hb4;obtain⟨ov,h7r,hownr⟩:=HSt.out.2.2.2.box7;obtain⟨va2,vn2,vc2,rfl⟩:=ND hownr;have h7:=(hb4.block _ Cv).trans ((Af wr (Obj.cells #[.int .u8 (t.kind.toNat:Int),i8 (t.fr:Int),i8 (t.to:Int)] 56) _ (lt_of_block h7r)).trans h7r);have hown:=LD (hownr.alloc (Obj.cells #[.int .u8 (t.kind.toNat:Int),i8 (t.fr:Int),i8 (t.to:Int)] 56)) hb4;obtain⟨c7,f7⟩:=FC h7;obtain⟨c8,f8⟩:=FC hS4.box8;have k11:=(hb4.block wr.heap.size Cu).trans hnw;obtain⟨p0,p1,p2,_⟩:=uA k11;have hl7:=lt_of_block h7;have hl11:=lt_of_block k11)|(at_builtin;refine wpList_append_lies _ rfl _ _ 34 rfl (w1.heap.size+1+1+1) 56 iT _ 3 24 Tryz.underToks hiT hz0 hz1 hz2 rfl Ct (.slice va2 vn2 vc2) out.length (BF out) rfl (hown.alloc _) ⟨w4.heap.size,0,none⟩ 1 1 [.int .u8 (t.kind.toNat:Int),i8 (t.fr:Int),i8 (t.to:Int)] rfl rfl (At (B8 _ _)) Dq Ct Da Cs Cv _ rfl ?_;intro g cap w6 hown6 hgrow6 hat6 hlt6;have hs6:=AF.push (t:=t) (AF.later hS4 ((N' w4.heap.size w4).alloc (C' _) _)) ((Af _ _ _ hl7).trans h7) (hown.alloc _) hgrow6 hown6 rfl rfl;have k7:=(hgrow6.block (w1.heap.size+1) Cv (fun e=>Et)).trans ((Af _ _ _ hl7).trans h7);obtain⟨m7,n7⟩:=FC k7;obtain⟨m8,n8⟩:=FC hs6.box8;have HS7:Hid (AF (w1.heap.size+1) (w1.heap.size+1+1) (w1.alloc (Obj.cells #[i8 0,i8 0] 28)) none (out++[t]) ((w6.setCell ⟨w1.heap.size+1,0,none⟩ (.slice (some ⟨g,0,none⟩) (out.length+1) cap)).setCell ⟨w1.heap.size+1+1,0,none⟩ (i8 (-1)))):=hid (hs6.ends none);obtain⟨r8,s8⟩:=FC HS7.out.box8;have k12:=(Ah (w6.setCell ⟨w1.heap.size+1,0,none⟩ (.slice (some ⟨g,0,none⟩) (out.length+1) cap)) ⟨w1.heap.size+1+1,0,none⟩ (i8 (-1)) wr.heap.size Cv).trans ((Ah w6 ⟨w1.heap.size+1,0,none⟩ (.slice (some ⟨g,0,none⟩) (out.length+1) cap) wr.heap.size Cv).trans ((hgrow6.block wr.heap.size Cv (fun e=>Jr)).trans ((Af _ _ _ hl11).trans k11)));obtain⟨v0,v1,v2,_⟩:=uA k12;clear hs6 k7 hgrow6 hown6 k12)|(go_at_call 107;refine (hEn _).mono ?_;rintro e w8 ⟨rfl,rfl⟩));obtain⟨_,hF2,hn3,_⟩:=HSt.out;have hsw2:st=(some t.to,out++[t]):=hsw;subst hsw2;go_roundg (gk - 1)
      case measure=>omega
      case rel=>exact⟨i+1,some t.to,out++[t],Cu,Cs,HS7.out.ends (some t.to),hF2,hn3⟩
     | false =>
      go_wp2_with (first|(go_at_call 104;refine (hSl _).mono ?_;rintro e w4 ⟨rfl,hb4⟩;have hS4:=AF.later hS3 hb4;obtain⟨ov,h7r,hownr⟩:=HSt.out.2.2.2.box7;obtain⟨va2,vn2,vc2,rfl⟩:=ND hownr;have h7:=(hb4.block _ Cv).trans ((Af wr (Obj.cells #[.int .u8 (t.kind.toNat:Int),i8 (t.fr:Int),i8 (t.to:Int)] 56) _ (lt_of_block h7r)).trans h7r);have hown:=LD (hownr.alloc (Obj.cells #[.int .u8 (t.kind.toNat:Int),i8 (t.fr:Int),i8 (t.to:Int)] 56)) hb4;obtain⟨c7,f7⟩:=FC h7;obtain⟨c8,f8⟩:=FC hS4.box8;have k11:=(hb4.block wr.heap.size Cu).trans hnw;obtain⟨p0,p1,p2,_⟩:=uA k11;have hl7:=lt_of_block h7;have hl11:=lt_of_block k11)|(at_builtin;refine wpList_append_lies _ rfl _ _ 34 rfl (w1.heap.size+1+1+1) 56 iT _ 3 24 Tryz.underToks hiT hz0 hz1 hz2 rfl Ct (.slice va2 vn2 vc2) out.length (BF out) rfl (hown.alloc _) ⟨w4.heap.size,0,none⟩ 1 1 [.int .u8 (t.kind.toNat:Int),i8 (t.fr:Int),i8 (t.to:Int)] rfl rfl (At (B8 _ _)) Dq Ct Da Cs Cv _ rfl ?_;intro g cap w6 hown6 hgrow6 hat6 hlt6;have hs6:=AF.push (t:=t) (AF.later hS4 ((N' w4.heap.size w4).alloc (C' _) _)) ((Af _ _ _ hl7).trans h7) (hown.alloc _) hgrow6 hown6 rfl rfl;have k7:=(hgrow6.block (w1.heap.size+1) Cv (fun e=>Et)).trans ((Af _ _ _ hl7).trans h7);obtain⟨m7,n7⟩:=FC k7;obtain⟨m8,n8⟩:=FC hs6.box8;have HS7:Hid (AF (w1.heap.size+1) (w1.heap.size+1+1) (w1.alloc (Obj.cells #[i8 0,i8 0] 28)) none (out++[t]) ((w6.setCell ⟨w1.heap.size+1,0,none⟩ (.slice (some ⟨g,0,none⟩) (out.length+1) cap)).setCell ⟨w1.heap.size+1+1,0,none⟩ (i8 (-1)))):=hid (hs6.ends none);obtain⟨r8,s8⟩:=FC HS7.out.box8;have k12:=(Ah (w6.setCell ⟨w1.heap.size+1,0,none⟩ (.slice (some ⟨g,0,none⟩) (out.length+1) cap)) ⟨w1.heap.size+1+1,0,none⟩ (i8 (-1)) wr.heap.size Cv).trans ((Ah w6 ⟨w1.heap.size+1,0,none⟩ (.slice (some ⟨g,0,none⟩) (out.length+1) cap) wr.heap.size Cv).trans ((hgrow6.block wr.heap.size Cv (fun e=>Jr)).trans ((Af _ _ _ hl11).trans k11)));obtain⟨v0,v1,v2,_⟩:=uA k12;clear hs6 k7 hgrow6 hown6 k12)|(go_at_call 107;refine (hEn _).mono ?_;rintro e w8 ⟨rfl,rfl⟩));obtain⟨_,hF2,hn3,_⟩:=HSt.out;have hsw2:st=(none,out++[t]):=hsw;subst hsw2;go_roundg (gk - 1)
      case measure=>omega
      case rel=>exact⟨i+1,none,out++[t],Cu,Cs,HS7.out,hF2,hn3⟩
   ·have d2:decide ((i:Int) < (l.length:Int))=false:=by simpa using hi
    have hns:out.length<=1000000:=by split at hn <;> omega
    rw [List.drop_of_length_le Cs,jG] at hF;have HF:=hid hF;clear hF hn;go_wp2_with (first|(go_at_call 105;refine (aL hS hns).mono ?_;rintro e w6 ⟨rfl,hS6⟩;obtain⟨ov,h7,hown⟩:=hS6.box7;obtain⟨va2,vc2,rfl⟩:=bE hown;obtain⟨c7,f7⟩:=FC h7;have kF:=(hS6.bel.block w.heap.size Cs).trans ((Af w1 (Obj.cells #[i8 0,i8 0] 28) w.heap.size (lt_of_block HC.out.2.1)).trans HC.out.2.1);obtain⟨c0,c1,f0,f1⟩:=tA kF;have HS6:=hid hS6;have HO6:=hid hown;clear hS6 hown h7));have hB9:Below w.heap.size w w6:=(HC.out.2.2.alloc HC.out.2.2.size (Obj.cells #[i8 0,i8 0] 28)).trans (HS6.out.bel.mono Cs);have u9:=VD kF (i8 0) (i8 0);have HB9:=hid ((hB9.setCell (p:=(y8 w.heap.size 0)) (C' _) (i8 0)).setCell (p:=(y8 w.heap.size 1)) (C' _) (i8 0));have HO9:=hid (rA (rA HO6.out (y8 w.heap.size 0) Cv (i8 0)) (y8 w.heap.size 1) Cv (i8 0));obtain⟨q0,q1,_⟩:=tA u9;rw [<- HF.out];generalize (w6.setCell (y8 w.heap.size 0) (i8 0)).setCell (y8 w.heap.size 1) (i8 0)=w9 at *;refine Ca (v:=.tuple #[.slice va2 (QD (E,out)).length vc2,qA 0 0]) ?_ rfl ⟨_,rfl,jE HO9.out Cs,HB9.out⟩;simp [results,Tryz.results67,go_sem,q0,q1,qA]
end
section
open Go.RowKit
variable {w:World}
def XK (c:UInt8):UInt8:=if c=40 then 41 else if c=91 then 93 else if c=123 then 125 else 0
theorem BJ (c:UInt8):Calls Tryz.prog 68 #[.int .u8 (c.toNat:Int)] w (fun e w'=>e=.returned (.int .u8 ((XK c).toNat:Int))/\w'=w):=by
  have hne:∀ (y:UInt8),¬ c=y->((c.toNat:Int)==(y.toNat:Int))=false:=fun y h=>by
    exact zcs
  by_cases h1:c=40
  · subst h1
    go_in
    go_wp2_with fail;go_ret;exact⟨rfl,rfl⟩
  by_cases h2:c=91
  · subst h2
    clear h1
    go_in
    go_wp2_with fail;go_ret;exact⟨rfl,rfl⟩
  by_cases h3:c=123
  · subst h3
    clear h1 h2
    go_in
    go_wp2_with fail;go_ret;exact⟨rfl,rfl⟩
  have e:XK c=0:=by unfold XK;rw [Bc h1,Bc h2,Bc h3]
  rw [e];have d1:((c.toNat:Int)==40)=false:=hne 40 h1;have d2:((c.toNat:Int)==91)=false:=hne 91 h2;have d3:((c.toNat:Int)==123)=false:=hne 123 h3;clear h1 h2 h3 hne e
  go_in
  exact zaq
inductive DO where
  | bad (err a:Nat):DO
  | ok (l:List Tk) (p:List Int) (most:Nat):DO
structure vH where
  pair:List Int
  stk:List Nat
  most:Nat
def sG (s:List UInt8) (k:Nat):UInt8:=s[k]?.getD 0
def vQ (l:List Tk) (i:Nat):Nat:=((l[i]?).getD ⟨0,0,0⟩).fr
def vH.top (st:vH):Nat:=st.stk.getLast?.getD 0
def rF (s:List UInt8) (l:List Tk):List Tk->Nat->vH->DO
  | [],_,st=>if st.stk=[] then .ok l st.pair st.most else .bad 5 (vQ l st.top)
  | t::r,i,st =>
    if t.kind≠8∨t.to - t.fr≠1 then rF s l r (i+1) ⟨st.pair.set i (-1),st.stk,st.most⟩
    else if XK (sG s t.fr)≠0 then
      (if st.stk.length=100 then .bad 6 t.fr else rF s l r (i+1) ⟨st.pair.set i (-1),st.stk++[i],max st.most (st.stk.length+1)⟩)
    else if sG s t.fr=41∨sG s t.fr=93∨sG s t.fr=125 then
      (if st.stk=[]∨XK (sG s (vQ l st.top))≠sG s t.fr then .bad 5 t.fr
       else rF s l r (i+1) ⟨((st.pair.set i (-1)).set i (st.top:Int)).set st.top (i:Int),st.stk.dropLast,st.most⟩)
    else rF s l r (i+1) ⟨st.pair.set i (-1),st.stk,st.most⟩
def FH (s:List UInt8):DO:=match wH s with
  | .bad e a=>.bad e a
  | .ok l=>rF s l l 0 ⟨List.replicate l.length 0,[],0⟩
def fJ (r:DO) (w:World) (e:Ending) (w':World):Prop :=
  match r with
  | .bad err a=>e=.returned (.tuple #[.slice none 0 0,.slice none 0 0,i8 0,qA err a])/\Below w.heap.size w w'
  | .ok l p m=>∃ tv pv,e=.returned (.tuple #[tv,pv,i8 m,qA 0 0])/\w'.ownsRow w.heap.size 56 3 tv l.length (BF l)/\w'.ownsRow w.heap.size 3 1 pv p.length (nG p)/\Below w.heap.size w w'
theorem Tryz.infoArr:(Tryz.prog.info? 95).map (fun i=>(i.zero,i.size))=some (some (.agg (Array.replicate 100 (i8 0))),100):=Cw
theorem Tryz.infoInt:(Tryz.prog.info? 3).map (fun i=>(i.zero,i.size,i.bytes))=some (some (i8 0),1,8):=Cw
theorem Tryz.underInts:Tryz.prog.underlying 48=some (.slice 3):=Cw
theorem yN {s:List UInt8}{e a:Nat} (h:wH s=.bad e a):(e=2∨e=3∨e=4)/\a<=s.length:=by
  unfold wH at h;split at h
  · rename_i hA
    cases h;exact eQ hA
  · cases h
def iY (s:List UInt8) (t:Tk):Prop:=t.fr<=t.to/\t.to<=s.length/\(t.kind=8->t.fr < t.to)
theorem jQ (s:List UInt8):∀ (l:List Tk) (st:Option Nat × List Tk) (i:Nat),(∀ t∈l,t.fr < t.to/\t.to<=s.length)->(∀ t∈st.2,iY s t)->(∀ n,st.1=some n->n<=s.length)->st.2.length+(if st.1.isSome then 1 else 0)<=2*i ->
    (∀ t∈QD (jG s l st),iY s t)/\(QD (jG s l st)).length<=2*(i+l.length)
  | [],st,i,h,h1,h2,h3=>by
    obtain⟨E,out⟩:=st;rw [jG];cases E with
    | none=>exact⟨h1,by simp [QD] at h3 ⊢;omega⟩
    | some n =>
      refine⟨fun t ht=>?_,by simp [QD] at h3 ⊢;omega⟩;simp only [QD,List.mem_append,List.mem_singleton] at ht;rcases ht with ht|rfl
      · exact h1 t ht
      · exact⟨C' _,h2 n rfl,fun h=>Do⟩
  | t::r,st,i,h,h1,h2,h3=>by
    obtain⟨E,out⟩:=st;rw [jG];have ht:=h t (Bj ..);have hlen:=uJ s t (E,out) i h3;have:=jQ s r (GE s t (E,out)) (i+1) (fun u hu=>h u (Bm _ hu)) (fun u hu=>?_) (fun n hn=>?_) hlen
    · exact⟨this.1,by have:=this.2;simp only [Ae];omega⟩
    · unfold GE at hu
      split at hu
      · split at hu
        · cases E with
          | none=>exact h1 u hu
          | some n =>
            simp only [QD,List.mem_append,List.mem_singleton] at hu;rcases hu with hu|rfl
            · exact h1 u hu
            · exact⟨C' _,h2 n rfl,fun h=>Do⟩
        · exact h1 u hu
      · simp only [List.mem_append,List.mem_singleton] at hu
        rcases hu with hu|rfl
        · exact h1 u hu
        · exact⟨Cs,ht.2,fun _=>ht.1⟩
    · unfold GE at hn
      split at hn
      · split at hn
        · cases hn
        · exact h2 n hn
      · simp only at hn
        split at hn
        · cases hn;exact ht.2
        · cases hn
theorem gJ {s:List UInt8}{l:List Tk} (h:wH s=.ok l):(∀ t∈l,iY s t)/\l.length<=131072/\s.length<=65536:=by
  unfold wH at h;split at h
  · cases h
  · rename_i r hA
    obtain⟨h1,h2,h3⟩:=lS hA;cases h;obtain⟨h4,h5⟩:=jQ s r (none,[]) 0 h1 (fun t ht=>by cases ht) (fun n hn=>by cases hn) (C' _);exact⟨h4,Cs,h3⟩
end
