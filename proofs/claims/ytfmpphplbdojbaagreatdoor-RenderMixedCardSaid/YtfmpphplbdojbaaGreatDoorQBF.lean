import Derived.Test.YtfmpphplbdojbaaGreatDoorQBB
namespace Go.Proofs.YtfmpphplbdojbaaGreatDoor
open Lib(hid)
set_option linter.all false
set_option maxHeartbeats 40000000
set_option maxRecDepth 100000
section
open Go.RowKit
variable {w:World}
def YV:Option Nat->Int
 | none=>-1
 | some n=>n
structure AF (b7 b8:Nat) (wB:World) (E:Option Nat) (out:List Tk) (w:World):Prop where
 lt:b7 < b8
 box7:∃ ov,w.heap[b7]?=some (.cells #[ov] 50 (0,0))/\w.ownsRow (b8+1) 63 3 ov out.length (BF out)
 box8:w.heap[b8]?=some (.cells #[.int .i64 (YV E)] 3 (0,0))
 bel:Below b7 wB w
variable {b7 b8:Nat}{wB:World}{E:Option Nat}{out:List Tk}
theorem AF.later {w':World} (h:AF b7 b8 wB E out w) (hb:Below w.heap.size w w'):AF b7 b8 wB E out w':=by
 obtain⟨ov,h1,h2⟩:=h.box7;exact⟨h.lt,⟨ov,(hb.block _ (lt_of_block h1)).trans h1,LD h2 hb⟩,(hb.block _ (lt_of_block h.box8)).trans h.box8,h.bel.trans (hb.mono (by have:=lt_of_block h1;omega))⟩
theorem AF.ends (h:AF b7 b8 wB E out w) (E':Option Nat):AF b7 b8 wB E' out (w.setCell ⟨b8,0,none⟩ (.int .i64 (YV E'))):=by
 obtain⟨ov,h1,h2⟩:=h.box7;have:=h.lt;refine⟨h.lt,⟨ov,?_,rA h2 _ Cm _⟩,?_,h.bel.setCell (p:=⟨b8,0,none⟩) Cn _⟩
 ·rw [Ad _ _ _ _ Cn];exact h1
 ·have:=heap_setCell_same w b8 0 _ _ (.int .i64 (YV E')) h.box8;simpa using this
theorem FC {b:Nat}{x:Value}{T:TypeId} (h:w.heap[b]?=some (.cells #[x] T (0,0))):w.cell? ⟨b,0,none⟩=some x/\w.frozen? ⟨b,0,none⟩=false:=by
 refine⟨?_,?_⟩
 all_goals first
  | (unfold World.cell?;rw [h];rfl)
  | (unfold World.frozen?;rw [h];rfl)
theorem AF.push {w1 w2:World}{ov v':Value}{n:Nat}{xs:List Value}{t:Tk} (h:AF b7 b8 wB E out w1) (h7:w1.heap[b7]?=some (.cells #[ov] 50 (0,0))) (hown:w1.ownsRow (b8+1) 63 3 ov out.length (BF out)) (hg:w1.grownBy w2 ov.ownBlock) (hown':w2.ownsRow (b8+1) 63 3 v' n xs) (hn:n=out.length+1) (hx:xs=BF out++BF [t]) :
  AF b7 b8 wB E (out++[t]) (w2.setCell ⟨b7,0,none⟩ v'):=by
 have hlt:=h.lt;have k7:=(hg.block b7 (lt_of_block h7) (fun e=>Ef)).trans h7;have k8:=(hg.block b8 (lt_of_block h.box8) (fun e=>Ef)).trans h.box8;have hB:Below b7 wB w2:=h.bel.grown hg (by have:=lt_of_block h7;omega) (fun j hj=>by have:=(hown.lt _ hj).1;omega);subst hn hx;refine⟨h.lt,⟨v',?_,?_⟩,?_,hB.setCell (p:=⟨b7,0,none⟩) (C' _) _⟩
 ·have:=heap_setCell_same w2 b7 0 _ _ v' k7;simpa using this
 ·rw [GH,O'];exact rA hown' _ Cn _
 ·rw [Ad _ _ _ _ Cn];exact k8
def QD (st:Option Nat × List Tk):List Tk:=match st.1 with
 | none=>st.2
 | some n=>st.2++[⟨9,n,n⟩]
theorem aL (h:AF b7 b8 wB E out w) (hsm:out.length<=1000000):Calls Tryz.prog 141 #[.pointer (some ⟨b8,0,none⟩),.pointer (some ⟨b7,0,none⟩)] w (fun e w'=>e=.returned (.tuple #[])/\AF b7 b8 wB none (QD (E,out)) w'):=by
 obtain⟨iT,hiT,hz0,hz1,hz2⟩:=info_parts Tryz.infoTok;obtain⟨ov,h7,hown⟩:=h.box7;obtain⟨c7,f7⟩:=FC h7;obtain⟨c8,f8⟩:=FC h.box8;cases E with
 | none =>
  have d0:YV none=-1:=rfl;rw [d0] at c8;have HH:=hid h;clear hown h7 h d0;go_enter Tryz.func141,Tryz.ntmps141;go_wp2_with fail;go_end0;exact⟨rfl,HH.out.ends none⟩
 | some n =>
  have d0:YV (some n)=(n:Int):=rfl;rw [d0] at c8;have HH:=hid h;obtain⟨va,vn,vc,rfl⟩:=ND hown;have hlt:=h.lt;have hl7:=lt_of_block h7;have hl8:=lt_of_block h.box8;clear h d0;go_enter Tryz.func141,Tryz.ntmps141;go_wp2_with (at_builtin;refine wpList_append_lies _ rfl _ _ 50 rfl (b8+1) 63 iT _ 3 24 Tryz.underToks hiT hz0 hz1 hz2 rfl Ch (.slice va vn vc) out.length (BF out) rfl (hown.alloc _) ⟨w.heap.size,0,none⟩ 1 1 [.int .u8 9,.int .i64 (n:Int),.int .i64 (n:Int)] rfl rfl (Aq (heap_alloc_new _ _)) Eb Ch Cu Cf Cn _ rfl ?_;intro g cap w6 hown6 hgrow6 hat6 hlt6;have hs6:=AF.push (t:=⟨9,n,n⟩) (AF.later HH.out ((J' w.heap.size w).alloc (C' _) _)) ((Ac _ _ _ hl7).trans h7) (hown.alloc _) hgrow6 hown6 rfl rfl;have k7:=(hgrow6.block b7 Cn (fun e=>Ef)).trans ((Ac _ _ _ hl7).trans h7);obtain⟨m7,n7⟩:=FC k7;have hs8:=hs6.box8;obtain⟨m8,n8⟩:=FC hs8;have HS6:=hid hs6;clear hs6 hs8 k7 hgrow6 hown6);go_end0;exact⟨rfl,HS6.out.ends none⟩
theorem bE {base n S:Nat}{T:TypeId}{v:Value}{xs:List Value} (h:w.ownsRow base T S v n xs):∃ a k,v=.slice a n k:=by
 rcases h.2 with ⟨h1,h2⟩|⟨g,cap,cur,e1,_⟩
 ·exact⟨_,_,by rw [h1,h2]⟩
 ·exact⟨_,_,e1⟩
def oG (s:List UInt8) (t:Tk):List UInt8:=(s.drop t.fr).take (t.to - t.fr)
def nlB (t:List UInt8):Bool:=decide (0<=Lib.indexByte t 10)
def GE (s:List UInt8) (t:Tk) (st:Option Nat × List Tk):Option Nat × List Tk :=
 if kJ t.kind then (if nlB (oG s t) then (none,QD st) else st) else (if vP t.kind (oG s t) then some t.to else none,st.2++[t])
def jG (s:List UInt8):List Tk->Option Nat × List Tk->Option Nat × List Tk
 | [],st=>st
 | t::r,st=>jG s r (GE s t st)
def wH (s:List UInt8):ZT:=match cK s with
 | .bad e a=>.bad e a
 | .ok l=>.ok (QD (jG s l (none,[])))
theorem ZR (l:List UInt8):∀ f k acc r,VG l f k acc=.ok r->(∀ t∈acc,t.fr < t.to/\t.to<=l.length)->k<=l.length->acc.length<=k->(∀ t∈r,t.fr < t.to/\t.to<=l.length)/\r.length<=l.length
 | 0,k,acc,r,h,ha,hk,hn=>by
  rw [VG] at h;cases h;exact⟨ha,Cf⟩
 | f+1,k,acc,r,h,ha,hk,hn=>by
  rw [VG] at h;split at h
  ·rename_i hkl;split at h
   ·exact C4
   ·rename_i hz;obtain⟨_,_,h3,h4⟩:=fM hkl hz;refine ZR l f _ _ r h (fun t ht=>?_) h4 Io;rw [List.mem_append,List.mem_singleton] at ht;rcases ht with ht|rfl
    ·exact ha t ht
    ·exact⟨h3,h4⟩
  ·cases h;exact⟨ha,Cf⟩
theorem lS {l:List UInt8}{r:List Tk} (h:cK l=.ok r):(∀ t∈r,t.fr < t.to/\t.to<=l.length)/\r.length<=l.length/\l.length<=65536:=by
 unfold cK at h;split at h
 ·exact C4
 ·split at h
  ·exact C4
  ·obtain⟨h1,h2⟩:=ZR l _ _ _ r h (fun t ht=>by cases ht) (Nat.zero_le _) (C' _);exact⟨h1,h2,Cf⟩
theorem WO {l:List UInt8}{e a:Nat}:∀ {f k acc},VG l f k acc=.bad e a->e=4/\a < l.length
 | 0,_,_,h=>by rw [VG] at h;cases h
 | f+1,k,acc,h=>by
  rw [VG] at h;split at h
  ·split at h
   ·cases h;exact⟨rfl,Db⟩
   ·exact WO h
  ·exact C4
theorem eQ {l:List UInt8}{e a:Nat} (h:cK l=.bad e a):(e=2∨e=3∨e=4)/\a<=l.length:=by
 unfold cK at h;split at h
 ·cases h;exact⟨.inl rfl,Nat.zero_le _⟩
 ·split at h
  ·have:=QN l;cases h;exact⟨.inr (.inl rfl),Cf⟩
  ·obtain⟨h1,h2⟩:=WO h;exact⟨.inr (.inr h1),Cf⟩
theorem uJ (s:List UInt8) (t:Tk) (st:Option Nat × List Tk) (i:Nat) (h:st.2.length+(if st.1.isSome then 1 else 0)<=2*i):(GE s t st).2.length+(if (GE s t st).1.isSome then 1 else 0)<=2*(i+1):=by
 obtain⟨E,out⟩:=st;unfold GE;split
 ·split
  ·cases E <;> simp [QD] at h ⊢ <;> omega
  ·exact Ak h Cf
 ·simp only [O',Ab,Aj];split <;> split <;> simp at h ⊢ <;> omega
theorem DT (s:List UInt8) (hT:NC w):Calls Tryz.prog 100 #[.string ⟨s.toArray⟩] w (TI (wH s) w):=by
 have h0:=heap_alloc_new w (Obj.cells #[.int .i64 0,.int .i64 0] 35);have hB0:=(J' w.heap.size w).alloc (C' _) (Obj.cells #[.int .i64 0,.int .i64 0] 35);have HA:=fun (w1:World) h=>pV (w:=w1) s h
 have HT:=hid hT;clear hT;have hR:wH s=match cK s with
  | .bad e a=>.bad e a
  | .ok l=>.ok (QD (jG s l (none,[]))):=rfl
 rw [hR];clear hR;have hlt0:=lt_of_block h0;cases hA:cK s with
 | bad er a =>
  obtain⟨her,_⟩:=eQ hA;rw [hA] at HA;have hne:((er:Nat):Int)≠0:=Cf
  have hne2:(((er:Nat):Int)==0)=false:=Hg
  unfold TI qA at HA;go_enter Tryz.func100,Tryz.ntmps100;go_upto_region 1 with fail;generalize w.alloc (Obj.cells #[.int .i64 0,.int .i64 0] 35)=wA at *;go_wp2_with (go_at_call 139;refine (HA wA (HT.out.below hB0)).mono ?_;rintro e w1 ⟨rfl,hb⟩;have k6:=(hb.block _ hlt0).trans h0;have hBw:=dA hB0 hb;clear hb);have h3:=(Ac w1 (Obj.cells #[.int .i64 (er:Int),.int .i64 (a:Int)] 35) w.heap.size (lt_of_block k6)).trans k6;have h4:=heap_alloc_new w1 (Obj.cells #[.int .i64 (er:Int),.int .i64 (a:Int)] 35);have hB2:=hid (hBw.alloc hBw.size (Obj.cells #[.int .i64 (er:Int),.int .i64 (a:Int)] 35));have HS:=hid (show w.heap.size≠w1.heap.size by have:=lt_of_block k6;omega);clear h0 hB0 k6 hBw;generalize w1.alloc (Obj.cells #[.int .i64 (er:Int),.int .i64 (a:Int)] 35)=w2 at *;obtain⟨c0,c1,f0,f1⟩:=tA h3;obtain⟨e0,e1,_⟩:=tA h4;have u9:=hid (VD h3 (.int .i64 (er:Int)) (.int .i64 (a:Int)));clear h3 h4;go_region
  all_goals (go_wp2_with fail)
  all_goals
   have HB9:=hid ((hB2.out.setCell (p:=⟨w.heap.size,0,none⟩) (C' _) (.int .i64 (er:Int))).setCell (p:=⟨w.heap.size,1,none⟩) (C' _) (.int .i64 (a:Int)));obtain⟨q0,q1,_⟩:=tA u9.out;generalize (w2.setCell ⟨w.heap.size,0,none⟩ (.int .i64 (er:Int))).setCell ⟨w.heap.size,1,none⟩ (.int .i64 (a:Int))=w9 at *;refine bodyPost_ret (v:=.tuple #[.slice none 0 0,qA er a]) ?_ rfl ⟨rfl,HB9.out.drew⟩;simp [results,Tryz.results100,go_sem,q0,q1,qA]
 | ok l =>
  obtain⟨hfit,hlen,hs⟩:=lS hA;rw [hA] at HA;unfold TI qA at HA
  show Calls _ _ _ _ (TI (.ok (QD (jG s l (none,[])))) w)
  obtain⟨R,hRR⟩:∃ R,R=jG s l (none,[]):=⟨_,rfl⟩;rw [<- hRR];have HRR:=hid hRR;obtain⟨iT,hiT,hz0,hz1,hz2⟩:=info_parts Tryz.infoTok;clear hRR;go_enter Tryz.func100,Tryz.ntmps100;go_upto_region 1 with fail;generalize w.alloc (Obj.cells #[.int .i64 0,.int .i64 0] 35)=wA at *;go_wp2_with (go_at_call 139;refine (HA wA (HT.out.below hB0)).mono ?_;rintro e w1 ⟨tv,rfl,hrow,hb⟩;obtain⟨va,vc,rfl⟩:=bE hrow;have k6:=(hb.block _ hlt0).trans h0;have hBw:=dA hB0 hb;clear hb);have hbase:=hBw.size;have HC:=hid (And.intro hrow (And.intro k6 hBw));have hW0:AF (w1.heap.size+1) (w1.heap.size+1+1) (w1.alloc (Obj.cells #[.int .i64 0,.int .i64 0] 35)) none [] (((w1.alloc (Obj.cells #[.int .i64 0,.int .i64 0] 35)).alloc (Obj.cells #[.slice none 0 0] 50)).alloc (Obj.cells #[.int .i64 (-1)] 3)):=by
   have hs1:(w1.alloc (Obj.cells #[.int .i64 0,.int .i64 0] 35)).heap.size=w1.heap.size+1:=Cm
   have hs2:((w1.alloc (Obj.cells #[.int .i64 0,.int .i64 0] 35)).alloc (Obj.cells #[.slice none 0 0] 50)).heap.size=w1.heap.size+1+1:=Cm
   have e7:=heap_alloc_new (w1.alloc (Obj.cells #[.int .i64 0,.int .i64 0] 35)) (Obj.cells #[.slice none 0 0] 50);have e8:=heap_alloc_new ((w1.alloc (Obj.cells #[.int .i64 0,.int .i64 0] 35)).alloc (Obj.cells #[.slice none 0 0] 50)) (Obj.cells #[.int .i64 (-1)] 3);rw [hs1] at e7;rw [hs2] at e8;exact⟨Cf,⟨.slice none 0 0,(Ac _ _ _ (by rw [hs2];omega)).trans e7,rfl,.inl ⟨rfl,rfl⟩⟩,e8,((J' _ _).alloc (by rw [hs1];exact C' _) _).alloc (by rw [hs2];omega) _⟩
  clear hrow k6 hBw h0 hB0 hlt0 HT HA
  go_loopg [25] l.length (fun j v25 wr=>∃ (i:Nat) (E:Option Nat) (out:List Tk),v25=.int .i64 (i:Int)/\i+j=l.length/\AF (w1.heap.size+1) (w1.heap.size+1+1) (w1.alloc (Obj.cells #[.int .i64 0,.int .i64 0] 35)) E out wr/\jG s (l.drop i) (E,out)=R/\out.length+(if E.isSome then 1 else 0)<=2*i)
  case atStart=>exact⟨0,none,[],rfl,Cf,hW0,HRR.out.symm,C' _⟩
  case round =>
   obtain⟨i,E,out,rfl,hj,hS,hF,hn⟩:=hrel;by_cases hi:i < l.length
   ·have d2:decide ((i:Int) < (l.length:Int))=true:=by simpa using hi
    obtain⟨t,ht⟩:∃ t,l[i]?=some t:=⟨l[i],M' hi⟩;obtain⟨hf1,hf2⟩:=hfit t (List.mem_of_getElem? ht);obtain⟨x0,x1,x2⟩:=lH ht;obtain⟨b,hva,_,hbl,y0⟩:=GA HC.out.1 x0;obtain⟨b',e',_,_,y1⟩:=GA HC.out.1 x1;obtain⟨b'',e'',_,_,y2⟩:=GA HC.out.1 x2;subst hva;cases e';cases e'';have kp:∀ o v,w1.cell? ⟨b,o,none⟩=some v->wr.cell? ⟨b,o,none⟩=some v:=fun o v h=>(hS.bel.cell (p:=⟨b,o,none⟩) Cn).trans ((((J' w1.heap.size w1).alloc (C' _) (Obj.cells #[.int .i64 0,.int .i64 0] 35)).cell (p:=⟨b,o,none⟩) hbl).trans h)
    have z0:=kp _ _ y0;have z1:=kp _ _ y1;have z2:=kp _ _ y2;have hdr:l.drop i=t::l.drop (i+1):=by
     rw [M' hi] at ht;cases ht;exact An hi
    rw [hdr,jG] at hF;have hn2:=uJ s t (E,out) i hn;obtain⟨st,hst⟩:∃ st,st=GE s t (E,out):=⟨_,rfl⟩;rw [<- hst] at hF hn2;have HSt:=hid (And.intro hst (And.intro hF (And.intro hn2 hS)));have hsw:st=if kJ t.kind then (if nlB (oG s t) then (none,QD (E,out)) else (E,out)) else (if vP t.kind (oG s t) then some t.to else none,out++[t]):=hst
    have hns:out.length<=1000000:=by split at hn <;> omega
    have hcon:=fun w=>Tryz.strings_Contains_one ⟨(oG s t).toArray⟩ 10 w
    have hcn:decide (0<=Lib.indexByte (oG s t) 10)=nlB (oG s t):=rfl;simp only [hcn] at hcon;have hnw:=heap_alloc_new wr (Obj.cells #[.int .u8 (t.kind.toNat:Int),.int .i64 (t.fr:Int),.int .i64 (t.to:Int)] 63);have hS3:=hS.later ((J' wr.heap.size wr).alloc (C' _) (Obj.cells #[.int .u8 (t.kind.toNat:Int),.int .i64 (t.fr:Int),.int .i64 (t.to:Int)] 63));obtain⟨t0,t1,t2,g0,g1,g2⟩:=uA hnw;have htx:(s.drop t.fr).take (t.to - t.fr)=oG s t:=rfl;have q1:(t.fr:Int)<=(t.to:Int):=Cf
    have q2:(t.to:Int)<=(s.length:Int):=Cf
    have hSl:=fun w=>TO t.kind (t.fr:Int) (t.to:Int) (w:=w)
    have hEn:=fun w=>lT t.kind (oG s t) (w:=w)
    clear hF hst hS y0 y1 y2 x0 x1 x2 kp hdr;generalize hgt:oG s t=tx at *;generalize nlB tx=nl at *;generalize vP t.kind tx=eb at *;generalize kJ t.kind=sb at *;have hbig:=lt_of_block hS3.box8;have hbig2:=HSt.out.2.2.2.box8;have hbig3:=lt_of_block hbig2;clear hbig hbig2;cases sb with
    | true =>
     cases nl with
     | true =>
      go_wp2_with (first|(go_at_call 140;refine (hSl _).mono ?_;rintro e w4 ⟨rfl,hb4⟩)|(go_at_call 45;refine (hcon _).mono ?_;rintro e w5 ⟨rfl,rfl⟩)|(go_at_call 141;refine (aL (AF.later hS3 hb4) hns).mono ?_;rintro e w6 ⟨rfl,hS6⟩));obtain⟨_,hF2,hn3,_⟩:=HSt.out;have hsw2:st=(none,QD (E,out)):=hsw;subst hsw2;go_roundg (gk - 1)
      case measure=>omega
      case rel=>exact⟨i+1,none,QD (E,out),Cm,Cf,hS6,hF2,hn3⟩
     | false =>
      go_wp2_with (first|(go_at_call 140;refine (hSl _).mono ?_;rintro e w4 ⟨rfl,hb4⟩)|(go_at_call 45;refine (hcon _).mono ?_;rintro e w5 ⟨rfl,rfl⟩));obtain⟨_,hF2,hn3,_⟩:=HSt.out;have hsw2:st=(E,out):=hsw;subst hsw2;go_roundg (gk - 1)
      case measure=>omega
      case rel=>exact⟨i+1,E,out,Cm,Cf,AF.later hS3 hb4,hF2,hn3⟩
    | false =>
     cases eb with
     | true =>
      go_wp2_with (first|(go_at_call 140;refine (hSl _).mono ?_;rintro e w4 ⟨rfl,hb4⟩;have hS4:=AF.later hS3 hb4;obtain⟨ov,h7r,hownr⟩:=HSt.out.2.2.2.box7;obtain⟨va2,vn2,vc2,rfl⟩:=ND hownr;have h7:=(hb4.block _ Cn).trans ((Ac wr (Obj.cells #[.int .u8 (t.kind.toNat:Int),.int .i64 (t.fr:Int),.int .i64 (t.to:Int)] 63) _ (lt_of_block h7r)).trans h7r);have hown:=LD (hownr.alloc (Obj.cells #[.int .u8 (t.kind.toNat:Int),.int .i64 (t.fr:Int),.int .i64 (t.to:Int)] 63)) hb4;obtain⟨c7,f7⟩:=FC h7;obtain⟨c8,f8⟩:=FC hS4.box8;have k11:=(hb4.block wr.heap.size Cm).trans hnw;obtain⟨p0,p1,p2,_⟩:=uA k11;have hl7:=lt_of_block h7;have hl11:=lt_of_block k11)|(at_builtin;refine wpList_append_lies _ rfl _ _ 50 rfl (w1.heap.size+1+1+1) 63 iT _ 3 24 Tryz.underToks hiT hz0 hz1 hz2 rfl Ch (.slice va2 vn2 vc2) out.length (BF out) rfl (hown.alloc _) ⟨w4.heap.size,0,none⟩ 1 1 [.int .u8 (t.kind.toNat:Int),.int .i64 (t.fr:Int),.int .i64 (t.to:Int)] rfl rfl (Aq (heap_alloc_new _ _)) Eb Ch Cu Cf Cn _ rfl ?_;intro g cap w6 hown6 hgrow6 hat6 hlt6;have hs6:=AF.push (t:=t) (AF.later hS4 ((J' w4.heap.size w4).alloc (C' _) _)) ((Ac _ _ _ hl7).trans h7) (hown.alloc _) hgrow6 hown6 rfl rfl;have k7:=(hgrow6.block (w1.heap.size+1) Cn (fun e=>Ef)).trans ((Ac _ _ _ hl7).trans h7);obtain⟨m7,n7⟩:=FC k7;obtain⟨m8,n8⟩:=FC hs6.box8;have HS7:Hid (AF (w1.heap.size+1) (w1.heap.size+1+1) (w1.alloc (Obj.cells #[.int .i64 0,.int .i64 0] 35)) none (out++[t]) ((w6.setCell ⟨w1.heap.size+1,0,none⟩ (.slice (some ⟨g,0,none⟩) (out.length+1) cap)).setCell ⟨w1.heap.size+1+1,0,none⟩ (.int .i64 (-1)))):=hid (hs6.ends none);obtain⟨r8,s8⟩:=FC HS7.out.box8;have k12:=(Ad (w6.setCell ⟨w1.heap.size+1,0,none⟩ (.slice (some ⟨g,0,none⟩) (out.length+1) cap)) ⟨w1.heap.size+1+1,0,none⟩ (.int .i64 (-1)) wr.heap.size Cn).trans ((Ad w6 ⟨w1.heap.size+1,0,none⟩ (.slice (some ⟨g,0,none⟩) (out.length+1) cap) wr.heap.size Cn).trans ((hgrow6.block wr.heap.size Cn (fun e=>Im)).trans ((Ac _ _ _ hl11).trans k11)));obtain⟨v0,v1,v2,_⟩:=uA k12;clear hs6 k7 hgrow6 hown6 k12)|(go_at_call 142;refine (hEn _).mono ?_;rintro e w8 ⟨rfl,rfl⟩));obtain⟨_,hF2,hn3,_⟩:=HSt.out;have hsw2:st=(some t.to,out++[t]):=hsw;subst hsw2;go_roundg (gk - 1)
      case measure=>omega
      case rel=>exact⟨i+1,some t.to,out++[t],Cm,Cf,HS7.out.ends (some t.to),hF2,hn3⟩
     | false =>
      go_wp2_with (first|(go_at_call 140;refine (hSl _).mono ?_;rintro e w4 ⟨rfl,hb4⟩;have hS4:=AF.later hS3 hb4;obtain⟨ov,h7r,hownr⟩:=HSt.out.2.2.2.box7;obtain⟨va2,vn2,vc2,rfl⟩:=ND hownr;have h7:=(hb4.block _ Cn).trans ((Ac wr (Obj.cells #[.int .u8 (t.kind.toNat:Int),.int .i64 (t.fr:Int),.int .i64 (t.to:Int)] 63) _ (lt_of_block h7r)).trans h7r);have hown:=LD (hownr.alloc (Obj.cells #[.int .u8 (t.kind.toNat:Int),.int .i64 (t.fr:Int),.int .i64 (t.to:Int)] 63)) hb4;obtain⟨c7,f7⟩:=FC h7;obtain⟨c8,f8⟩:=FC hS4.box8;have k11:=(hb4.block wr.heap.size Cm).trans hnw;obtain⟨p0,p1,p2,_⟩:=uA k11;have hl7:=lt_of_block h7;have hl11:=lt_of_block k11)|(at_builtin;refine wpList_append_lies _ rfl _ _ 50 rfl (w1.heap.size+1+1+1) 63 iT _ 3 24 Tryz.underToks hiT hz0 hz1 hz2 rfl Ch (.slice va2 vn2 vc2) out.length (BF out) rfl (hown.alloc _) ⟨w4.heap.size,0,none⟩ 1 1 [.int .u8 (t.kind.toNat:Int),.int .i64 (t.fr:Int),.int .i64 (t.to:Int)] rfl rfl (Aq (heap_alloc_new _ _)) Eb Ch Cu Cf Cn _ rfl ?_;intro g cap w6 hown6 hgrow6 hat6 hlt6;have hs6:=AF.push (t:=t) (AF.later hS4 ((J' w4.heap.size w4).alloc (C' _) _)) ((Ac _ _ _ hl7).trans h7) (hown.alloc _) hgrow6 hown6 rfl rfl;have k7:=(hgrow6.block (w1.heap.size+1) Cn (fun e=>Ef)).trans ((Ac _ _ _ hl7).trans h7);obtain⟨m7,n7⟩:=FC k7;obtain⟨m8,n8⟩:=FC hs6.box8;have HS7:Hid (AF (w1.heap.size+1) (w1.heap.size+1+1) (w1.alloc (Obj.cells #[.int .i64 0,.int .i64 0] 35)) none (out++[t]) ((w6.setCell ⟨w1.heap.size+1,0,none⟩ (.slice (some ⟨g,0,none⟩) (out.length+1) cap)).setCell ⟨w1.heap.size+1+1,0,none⟩ (.int .i64 (-1)))):=hid (hs6.ends none);obtain⟨r8,s8⟩:=FC HS7.out.box8;have k12:=(Ad (w6.setCell ⟨w1.heap.size+1,0,none⟩ (.slice (some ⟨g,0,none⟩) (out.length+1) cap)) ⟨w1.heap.size+1+1,0,none⟩ (.int .i64 (-1)) wr.heap.size Cn).trans ((Ad w6 ⟨w1.heap.size+1,0,none⟩ (.slice (some ⟨g,0,none⟩) (out.length+1) cap) wr.heap.size Cn).trans ((hgrow6.block wr.heap.size Cn (fun e=>Im)).trans ((Ac _ _ _ hl11).trans k11)));obtain⟨v0,v1,v2,_⟩:=uA k12;clear hs6 k7 hgrow6 hown6 k12)|(go_at_call 142;refine (hEn _).mono ?_;rintro e w8 ⟨rfl,rfl⟩));obtain⟨_,hF2,hn3,_⟩:=HSt.out;have hsw2:st=(none,out++[t]):=hsw;subst hsw2;go_roundg (gk - 1)
      case measure=>omega
      case rel=>exact⟨i+1,none,out++[t],Cm,Cf,HS7.out,hF2,hn3⟩
   ·have d2:decide ((i:Int) < (l.length:Int))=false:=by simpa using hi
    have hns:out.length<=1000000:=by split at hn <;> omega
    rw [List.drop_of_length_le Cf,jG] at hF;have HF:=hid hF;clear hF hn;go_wp2_with (first|(go_at_call 141;refine (aL hS hns).mono ?_;rintro e w6 ⟨rfl,hS6⟩;obtain⟨ov,h7,hown⟩:=hS6.box7;obtain⟨va2,vc2,rfl⟩:=bE hown;obtain⟨c7,f7⟩:=FC h7;have kF:=(hS6.bel.block w.heap.size Cf).trans ((Ac w1 (Obj.cells #[.int .i64 0,.int .i64 0] 35) w.heap.size (lt_of_block HC.out.2.1)).trans HC.out.2.1);obtain⟨c0,c1,f0,f1⟩:=tA kF;have HS6:=hid hS6;have HO6:=hid hown;clear hS6 hown h7));have hB9:Below w.heap.size w w6:=(HC.out.2.2.alloc HC.out.2.2.size (Obj.cells #[.int .i64 0,.int .i64 0] 35)).trans (HS6.out.bel.mono Cf);have u9:=VD kF (.int .i64 0) (.int .i64 0);have HB9:=hid ((hB9.setCell (p:=⟨w.heap.size,0,none⟩) (C' _) (.int .i64 0)).setCell (p:=⟨w.heap.size,1,none⟩) (C' _) (.int .i64 0));have HO9:=hid (rA (rA HO6.out ⟨w.heap.size,0,none⟩ Cn (.int .i64 0)) ⟨w.heap.size,1,none⟩ Cn (.int .i64 0));obtain⟨q0,q1,_⟩:=tA u9;rw [<- HF.out];generalize (w6.setCell ⟨w.heap.size,0,none⟩ (.int .i64 0)).setCell ⟨w.heap.size,1,none⟩ (.int .i64 0)=w9 at *;refine bodyPost_ret (v:=.tuple #[.slice va2 (QD (E,out)).length vc2,qA 0 0]) ?_ rfl ⟨_,rfl,jE HO9.out Cf,HB9.out⟩;simp [results,Tryz.results100,go_sem,q0,q1,qA]
end
