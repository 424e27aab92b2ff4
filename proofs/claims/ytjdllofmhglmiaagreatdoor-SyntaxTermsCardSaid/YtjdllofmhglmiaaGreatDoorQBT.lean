import Derived.Test.YtjdllofmhglmiaaGreatDoorQBS
import Derived.Test.YtjdllofmhglmiaaGreatDoorQAQ
namespace Go.Proofs.YtjdllofmhglmiaaGreatDoor
open Lib(hid)
set_option linter.all false
set_option maxHeartbeats 40000000
set_option maxRecDepth 100000
namespace Ck
open Go.RowKit
variable {w w':World}
theorem gX5 (l:List UInt8) (k:Nat) (hl:l.length<=1048576):Calls Tryz.prog 170 #[.string ⟨l.toArray⟩,i8 (k:Int)] w fun e w'=>e=.returned (.tuple #[.int .u8 (YA l k).k,i8 (YA l k).tx,i8 (YA l k).e])/\Below w.heap.size w w':=by
 have HV:=hid (fZ0 l k);have HB:=hid (fun w=>xX9 (w:=w) l k hl);generalize YA l k=q at *;clear hl
 go_in
 go_wp2_with fail;refine (HB.out _).mono ?_;rintro e w2 ⟨⟨v,rfl⟩,hb⟩;rw [HV.out]
 dsimp only
 have HB2:=hid hb;clear hb;go_wp2_with fail;go_ret3;exact⟨rfl,HB2.out⟩
theorem AX3 (l:List UInt8):∀ (S:List (List UInt8)) (b:Nat),(∀ t∈S,t.length<=3)->b<=3->MX0 l S b<=3
 | [],b,_,h=>by unfold MX0;exact h
 | t::S,b,hS,h=>by
  unfold MX0;split
  ·exact AX3 l S _ (fun x hx=>hS x (Bm _ hx)) (hS t Bj)
  ·exact AX3 l S _ (fun x hx=>hS x (Bm _ hx)) h
theorem wrap_id (x:Int) (h0:-4611686018427387904<=x) (h1:x<=4611686018427387904):IntKind.i64.wrap x=x:=Cy
theorem rX3 (l:List UInt8):∀ (f p:Nat),p<=l.length->p<=CX1 l f p/\CX1 l f p<=l.length
 | 0,p,h=>⟨C' _,h⟩
 | f+1,p,h=>by
  unfold CX1;split
  ·rename_i hp;split
   ·exact zd1
   ·rename_i hn;have:=FQ5 hp (fun e=>hn (.inl e));have:=rX3 l f (p+(vB l p).2.toNat) Cs;omega
  ·exact zd1
theorem IX6 (l:List UInt8) (k:Nat) (hl:l.length<=65536) (hk:k < l.length):Calls Tryz.prog 130 #[.string ⟨l.toArray⟩,i8 (k:Int)] w fun e w'=>e=.returned (.tuple #[.int .u8 (dX6 l k).1,i8 (dX6 l k).2])/\Below w.heap.size w w':=by
 obtain⟨T,hT⟩:∃ T,T=dX6 l k:=⟨_,rfl⟩;rw [<- hT];unfold dX6 at hT;obtain⟨r,hr⟩:∃ r,r=(vB l k).1:=⟨_,rfl⟩;obtain⟨n,hn⟩:∃ n,n=(vB l k).2:=⟨_,rfl⟩;have HR:=hid (fun w=>IQ5 (w:=w) l (k:Int) Cs);have h2:=oI l k hk;rw [<- hr,<- hn] at hT;rw [<- hr,<- hn] at HR;rw [<- hn] at h2;have hsum:=wrap_id ((k:Int)+n) Cs Cs;have HK:=hid hk;clear hr hn h2
 go_in
 have HT:=hid hT;clear hT;go_wp2_with fail;refine (HR.out _).mono ?_;rintro e w2 ⟨rfl,hb2⟩;have HB:=hid hb2;clear hb2;by_cases h1:r=65279
 ·replace HT:=hid (HT.out.trans (Bb h1));have d1:(r==65279)=true:=by simp [h1]
  clear h1;exact za5
 replace HT:=hid (HT.out.trans (Bc h1));have d1:(r==65279)=false:=Ea
 clear h1;go_wp2_with fail;clear d1 hsum;refine (YX2 r).mono ?_;rintro e w3 ⟨rfl,rfl⟩;cases h2:RI r with
 | true =>
  replace HT:=hid (HT.out.trans (Bb h2));clear h2;go_wp2_with fail;refine (LX5 l k Cs Cs).mono ?_;rintro e w3 ⟨rfl,hb⟩;replace HB:=hid (dA HB.out hb);clear hb;exact za5
 | false =>
 replace HT:=hid (HT.out.trans (Bc (by rw [h2];decide)));clear h2;go_wp2_with fail;refine (fX2 l [47,47] k Cs Ct Cs).mono ?_;rintro e w3 ⟨rfl,rfl⟩;cases h3:([47,47]:List UInt8).isPrefixOf (l.drop k) with
 | true =>
  replace HT:=hid (HT.out.trans (Bb h3));clear h3;obtain⟨M,hM⟩:∃ M,M=qX2 l l.length k:=⟨_,rfl⟩;rw [<- hM] at HT;have HM:=hid hM;clear hM;go_wp2_with fail
  go_loop [8] (fun u=>∃ p f:Nat,u=i8 (p:Int)/\p<=l.length/\l.length<=p+f/\qX2 l f p=M) (fun u=>l.length - (intOf u).toNat)
  case atStart=>exact⟨k,l.length,rfl,Cs,Cs,HM.out.symm⟩
  case round =>
   obtain⟨p,f,rfl,hp,hpf,hL⟩:=hrel;by_cases hlt:p < l.length
   ·obtain⟨f,rfl⟩:∃ f',f=f'+1:=⟨f - 1,Cs⟩;unfold qX2 at hL;rw [dif_pos hlt] at hL;obtain⟨x,hx⟩:∃ x,l[p]'hlt=x:=⟨_,rfl⟩;rw [hx] at hL;have j0:(0:Int)<=(p:Int):=by omega
    have j1:(p:Int) < (l.length:Int):=Cs
    have hxg:l[p]?.getD 0=x:=by rw [O' hlt,hx];rfl
    by_cases hc:x=10
    ·rw [Bb hc] at hL;have d:((x.toNat:Int) != 10)=false:=by rw [hc];rfl
     have HL:=hid hL;clear hL hc;exact zbz
    ·rw [Bc hc] at hL;have d:((x.toNat:Int) != 10)=true:=by
      rw [bne_iff_ne];intro e;exact hc (UInt8.toNat.inj (show x.toNat=10 by omega))
     have HL:=hid hL;clear hL hc;go_wp2_with fail
     go_round
     case rel=>exact⟨p+1,f,Eh,Cs,Cs,HL.out⟩
     case measure=>simp [intOf];omega
   ·have HL:=hid (show p=M by
     rw [<- hL];cases f with
     | zero=>rfl
     | succ f=>unfold qX2;rw [dif_neg hlt])
    exact zfa
 | false =>
 replace HT:=hid (HT.out.trans (Bc G8));clear h3;go_wp2_with fail;refine (fX2 l [47,42] k Cs Ct Cs).mono ?_;rintro e w3 ⟨rfl,rfl⟩;cases h3:([47,42]:List UInt8).isPrefixOf (l.drop k) with
 | true =>
  replace HT:=hid (HT.out.trans (Bb h3));clear h3;obtain⟨M,hM⟩:∃ M,M=DX1 l l.length (k+2):=⟨_,rfl⟩;rw [<- hM] at HT;have HM:=hid hM;clear hM;go_wp2_with fail
  go_loop [9] (fun u=>∃ p f:Nat,u=i8 (p:Int)/\p<=l.length+2/\l.length<=p+f/\DX1 l f p=M) (fun u=>l.length+2 - (intOf u).toNat)
  case atStart=>exact⟨k+2,l.length,Eh,Cs,Cs,HM.out.symm⟩
  case round =>
   obtain⟨p,f,rfl,hp,hpf,hL⟩:=hrel;by_cases hlt:p < l.length
   ·obtain⟨f,rfl⟩:∃ f',f=f'+1:=⟨f - 1,Cs⟩;unfold DX1 at hL;rw [Bb hlt] at hL;have j1:(p:Int) < (l.length:Int):=by omega
    have HL:=hid hL;clear hL;go_wp2_with fail;refine (fX2 l [42,47] p Cs Ct Cs).mono ?_;rintro e w3 ⟨rfl,rfl⟩;cases h3:([42,47]:List UInt8).isPrefixOf (l.drop p) with
    | true =>
     have HL:=hid ((Bb h3).symm.trans HL.out);clear h3;exact zbz
    | false =>
     have HL:=hid ((Bc G8).symm.trans HL.out);clear h3;go_wp2_with fail
     go_round
     case rel=>exact⟨p+1,f,Eh,Cs,Cs,HL.out⟩
     case measure=>simp [intOf];omega
   ·have HL:=hid (show none=M by
     rw [<- hL];cases f with
     | zero=>rfl
     | succ f=>unfold DX1;rw [Bc hlt])
    exact zfa
 | false =>
 replace HT:=hid (HT.out.trans (Bc G8));clear h3;go_wp2_with fail;refine (oQ5 r).mono ?_;rintro e w3 ⟨rfl,hb⟩;replace HB:=hid (dA HB.out hb);clear hb;cases h3:oB r with
 | true =>
  replace HT:=hid (HT.out.trans (Bb h3));clear h3;have hrn:=rX3 l l.length k Cs;have hW:=RX2 l k l.length (l.drop k).length 0 Cs Fb Cs;rw [Nat.add_zero] at hW;have hWK:uI l k=if iJ ((l.drop k).take (CX1 l l.length k - k)) then 2 else 1:=by
   unfold uI;rw [hW,Nat.add_sub_cancel_left]
   rfl
  obtain⟨M,hM⟩:∃ M,M=CX1 l l.length k:=⟨_,rfl⟩;have HM:=hid (lX5 (w:=w3) l k Cs Cs);rw [<- hM] at HT hrn hWK HM;rw [hWK] at HT;clear hM hW hWK;go_wp2_with fail;refine HM.out.mono ?_;rintro e w4 ⟨rfl,hb⟩;replace HB:=hid (dA HB.out hb);clear hb HM;have j1:(k:Int)<=(M:Int):=Cs
  have j2:(M:Int)<=(l.length:Int):=Cs
  go_wp2_with fail;refine (jQ7 _).mono ?_;rintro e w5 ⟨rfl,hb⟩;replace HB:=hid (dA HB.out hb);clear hb;cases h4:iJ ((l.drop k).take (M - k)) with
  | true =>
   rw [h4] at HT;exact za5
  | false =>
   rw [h4] at HT;exact za5
 | false =>
 replace HT:=hid (HT.out.trans (Bc G8));clear h3;have HS:=hid (Num.iZ0 l (k:Int) w3 Cs);unfold Num.GX7 at HS;obtain⟨⟨q1,q2,q3⟩,hq⟩:∃ q,q=Num.YE l k:=⟨_,rfl⟩;rw [<- hq] at HS HT;clear hq
 dsimp only at HS HT
 go_wp2_with fail;refine HS.out.mono ?_;rintro e w4 ⟨rfl,rfl⟩;clear HS;by_cases h4:q3=15
 rotate_left
 ·replace HT:=hid (HT.out.trans (Bb h4));have d:(q3 != 15)=true:=by simpa using h4
  clear h4;exact za5
 replace HT:=hid (HT.out.trans (Bc (fun e=>e h4)));have d:(q3 != 15)=false:=Jg
 clear h4;go_wp2_with fail;have HS:=hid (gX5 (w:=w3) l k Cs);obtain⟨q,hq⟩:∃ q,q=YA l k:=⟨_,rfl⟩;rw [<- hq] at HS HT;clear hq d;refine HS.out.mono ?_;rintro e w4 ⟨rfl,hb⟩;replace HB:=hid (dA HB.out hb);clear HS hb;by_cases h4:q.e=15
 rotate_left
 ·replace HT:=hid (HT.out.trans (Bb h4));have d:(q.e != 15)=true:=by simpa using h4
  clear h4;exact za5
 replace HT:=hid (HT.out.trans (Bc (fun e=>e h4)));have d:(q.e != 15)=false:=Jg
 clear h4;obtain⟨x,hx⟩:∃ x,l[k]?=some x:=⟨_,O' hk⟩;have j0:(0:Int)<=(k:Int):=Cs
 have j1:(k:Int) < (l.length:Int):=Cs
 have hxg:l[k]?.getD 0=x:=by rw [hx];rfl
 have hxs:l[k]'hk=x:=(Al.1 hx).2;rw [hx] at HT;by_cases h5:x=59
 ·replace HT:=hid (HT.out.trans (Bb (by rw [h5])));have d2:((x.toNat:Int)==59)=true:=by rw [h5];rfl
  clear h5 hx;exact za5
 replace HT:=hid (HT.out.trans (Bc (fun e=>h5 (Option.some.inj e))));have d2:((x.toNat:Int)==59)=false:=by
  rw [Bi];intro e;exact h5 (UInt8.toNat.inj (show x.toNat=59 by omega))
 clear h5 hx;go_wp2_with fail;clear d d2 hxg hxs;refine nX6.mono ?_;rintro e w5 ⟨rfl,rfl⟩;have HC:=hid (DQ8 w4 rX0 9);replace HB:=hid (dA HB.out ((N' w4.heap.size w4).alloc (C' _) (Obj.cells (MQ4 rX0).toArray 9)));generalize w4.alloc (Obj.cells (MQ4 rX0).toArray 9)=w6 at *;generalize w4.heap.size=B at *;have HS3:=hid (show ∀ t∈rX0,t.length<=3 by decide);obtain⟨M,hM⟩:∃ M,M=MX0 (l.drop k) rX0 0:=⟨_,rfl⟩;rw [<- hM] at HT;have HM:=hid hM;clear hM;have HMB:=hid (show M<=3 by rw [HM.out];exact AX3 _ _ _ HS3.out Cs);go_wp2_with fail
 go_loop [14,16] (fun v u=>∃ b i:Nat,v=i8 (b:Int)/\u=i8 (i:Int)/\i<=47/\MX0 (l.drop k) (rX0.drop i) b=M) (fun _ u=>47 - (intOf u).toNat)
 case atStart=>exact⟨0,0,rfl,rfl,Cs,HM.out.symm⟩
 case round =>
  obtain⟨b,i,rfl,rfl,hi,he⟩:=hrel;by_cases hlt:i < 47
  ·obtain⟨t,ht⟩:∃ t,rX0[i]?=some t:=⟨_,O' (show i < rX0.length from hlt)⟩;have c0:=HC.out i _ ht;have i0:(0:Int)<=(i:Int):=by omega
   have i1:(i:Int) < 47:=Cs
   have ht3:=HS3.out t (List.mem_of_getElem? ht);have hdr:rX0.drop i=t::rX0.drop (i+1):=by
    exact zb7
   rw [hdr] at he;unfold MX0 at he;have HE:=hid he;clear he ht hdr;go_wp2_with fail;refine (fX2 l t k Cs Cs Cs).mono ?_;rintro e w3 ⟨rfl,rfl⟩;cases h3:t.isPrefixOf (l.drop k) with
   | false =>
    replace HE:=hid (show MX0 (l.drop k) (rX0.drop (i+1)) b=M by rw [<- HE.out,h3];simp);clear h3;go_wp2_with fail
    go_round
    case rel=>exact⟨b,i+1,rfl,Eh,Cs,HE.out⟩
    case measure=>simp [intOf];omega
   | true =>
    by_cases h4:b < t.length
    ·replace HE:=hid (show MX0 (l.drop k) (rX0.drop (i+1)) t.length=M by rw [<- HE.out,Bb ⟨h3,h4⟩]);have j2:(b:Int) < (t.length:Int):=by omega
     clear h3 h4;go_wp2_with fail
     go_round
     case rel=>exact⟨t.length,i+1,rfl,Eh,Cs,HE.out⟩
     case measure=>simp [intOf];omega
    ·replace HE:=hid (show MX0 (l.drop k) (rX0.drop (i+1)) b=M by rw [<- HE.out,Bc (fun e=>h4 e.2)]);have j2:¬ (b:Int) < (t.length:Int):=by omega
     clear h3 h4;go_wp2_with fail
     go_round
     case rel=>exact⟨b,i+1,rfl,Eh,Cs,HE.out⟩
     case measure=>simp [intOf];omega
  ·have hie:i=47:=by omega
   have hbM:b=M:=by rw [<- he,hie];rfl
   have i1:¬ (i:Int) < 47:=Cs
   clear he;have hb3:=HMB.out;rw [<- hbM] at HT hb3;have hkb:=wrap_id ((k:Int)+(b:Int)) Cs Cs;by_cases h0:b=0
   ·replace HT:=hid (HT.out.trans (Bb h0));have d:((b:Int)==0)=true:=by rw [h0];rfl
    clear h0 hbM hkb;exact za5
   ·replace HT:=hid (HT.out.trans (Bc h0));have d:((b:Int)==0)=false:=by rw [Bi];omega
    clear h0 hbM;exact za5
end Ck
namespace Ck
open Go.RowKit
variable {w w':World}
theorem dQ6 (l:List UInt8):Calls Tryz.prog 81 #[.string ⟨l.toArray⟩] w (TI (cK l) w):=by
 have h0:=B8 w (Obj.cells #[i8 0,i8 0] 28);have hB0:=(N' w.heap.size w).alloc (C' _) (Obj.cells #[i8 0,i8 0] 28);by_cases hlen:65536 < l.length
 ·have hR:cK l=.bad 2 0:=by unfold cK;rw [Bb hlen]
  rw [hR];have d0:decide ((65536:Int) < (l.length:Int))=true:=Cv
  clear hR hlen
  go_in
  go_upto_region 1 with fail;generalize w.alloc (Obj.cells #[i8 0,i8 0] 28)=w1 at *;obtain⟨c0,c1,f0,f1⟩:=tA h0;go_wp2_with fail;have u9:=VD h0 (i8 2) (i8 0);have HB9:=hid ((hB0.setCell (p:=(y8 w.heap.size 0)) (C' _) (i8 2)).setCell (p:=(y8 w.heap.size 1)) (C' _) (i8 0));obtain⟨q0,q1,_⟩:=tA u9;generalize ((w1).setCell (y8 w.heap.size 0) (i8 2)).setCell (y8 w.heap.size 1) (i8 0)=w9 at *;refine Ca (v:=.tuple #[.slice none 0 0,qA 2 0]) ?_ rfl ⟨rfl,HB9.out⟩;exact zcw
 have hlen2:l.length<=65536:=Cs
 have d0:decide ((65536:Int) < (l.length:Int))=false:=Cv
 have hR:cK l=if 0<=tG l then .bad 3 (tG l).toNat else VG l l.length 0 []:=by unfold cK;rw [Bc hlen]
 rw [hR];clear hR hlen;have hC:=fun (w:World)=>UX4 (w:=w) l Cs
 simp only [<- BX7 l] at hC;generalize tG l=cl at *;by_cases hcl:0<=cl
 ·rw [Bb hcl];obtain⟨j,rfl⟩:=Ad hcl;rw [Ai];clear hcl
  go_in
  go_upto_region 1 with fail;have hlt0:=lt_of_block h0;generalize w.alloc (Obj.cells #[i8 0,i8 0] 28)=w1 at *;go_wp2_with (go_at_call 129;refine (hC w1).mono ?_;rintro e w2 ⟨rfl,hb2⟩;have h2:=(hb2.block _ hlt0).trans h0;have hB2:=hid (dA hB0 hb2);obtain⟨c0,c1,f0,f1⟩:=tA h2;clear hb2);have u9:=VD h2 (i8 3) (i8 (j:Int));have HB9:=hid ((hB2.out.setCell (p:=(y8 w.heap.size 0)) (C' _) (i8 3)).setCell (p:=(y8 w.heap.size 1)) (C' _) (i8 (j:Int)));obtain⟨q0,q1,_⟩:=tA u9;generalize ((w2).setCell (y8 w.heap.size 0) (i8 3)).setCell (y8 w.heap.size 1) (i8 (j:Int))=w9 at *;refine Ca (v:=.tuple #[.slice none 0 0,qA 3 j]) ?_ rfl ⟨rfl,HB9.out⟩;exact zcw
 rw [Bc hcl];have d1:decide (0<=cl)=false:=by simpa using hcl
 clear hcl;obtain⟨R,hRR⟩:∃ R,R=VG l l.length 0 []:=⟨_,rfl⟩;rw [<- hRR];have HRR:=hid hRR;clear hRR;obtain⟨iT,hiT,hz0,hz1,hz2⟩:=info_parts Tryz.infoTok
 go_in
 go_upto_region 1 with fail;have hlt0:=lt_of_block h0;generalize w.alloc (Obj.cells #[i8 0,i8 0] 28)=w1 at *;go_wp2_with (go_at_call 129;refine (hC w1).mono ?_;rintro e w2 ⟨rfl,hb2⟩;have h2:=(hb2.block _ hlt0).trans h0;have hB2:=dA hB0 hb2;clear hb2)
 go_loopg [5,6] l.length (fun j v5 v6 wr=>∃ (k:Nat) (acc:List Tk),v6=i8 (k:Int)/\wr.ownsRow (w.heap.size+1) 56 3 v5 acc.length (BF acc)/\wr.heap[w.heap.size]?=some (.cells #[i8 0,i8 0] 28 (0,0))/\Below w.heap.size w wr/\VG l j k acc=R/\l.length<=k+j/\k<=l.length/\acc.length<=k)
 case atStart=>exact⟨0,[],rfl,⟨rfl,.inl ⟨rfl,rfl⟩⟩,h2,hB2,HRR.out.symm,Cs,Nat.zero_le _,C' _⟩
 case round =>
  obtain⟨k,acc,rfl,hown,hF,hB,hL,hj,hk,ha⟩:=hrel;obtain⟨va,vn,vc,rfl⟩:=ND hown;by_cases hkl:k < l.length
  ·have d2:decide ((k:Int) < (l.length:Int))=true:=by simpa using hkl
   have hN:=IX6 (w:=wr) l k hlen2 hkl;rw [mX9 hkl (sX8 hkl)] at hN;have hst:∃ j',gk=j'+1:=⟨gk - 1,Cs⟩;by_cases hz:(cB l k).1=0
   ·rw [hz] at hN;have hLR:R=.bad 4 k:=by
     exact zej
    have HLR:=hid hLR;have hltF:=lt_of_block hF;clear hL hj hst hz hLR hown h0 h2 hB0 hB2;go_wp2_with (go_at_call 130;refine hN.mono ?_;rintro e w3 ⟨rfl,hb3⟩;have h3:=(hb3.block _ hltF).trans hF;have hB4:=hid (dA hB hb3);clear hb3;have h4:=h3;obtain⟨c0,c1,f0,f1⟩:=tA h4);rw [HLR.out];have u9:=VD h4 (i8 4) (i8 (k:Int));have HB9:=hid ((hB4.out.setCell (p:=(y8 w.heap.size 0)) (C' _) (i8 4)).setCell (p:=(y8 w.heap.size 1)) (C' _) (i8 (k:Int)));obtain⟨q0,q1,_⟩:=tA u9;generalize (w3.setCell (y8 w.heap.size 0) (i8 4)).setCell (y8 w.heap.size 1) (i8 (k:Int))=w9 at *;refine Ca (v:=.tuple #[.slice none 0 0,qA 4 k]) ?_ rfl ⟨rfl,HB9.out⟩;exact zcw
   ·obtain⟨e1,e2,e3,e4⟩:=fM hkl hz;have hLR:VG l (gk - 1) (xH l k).to (acc++[xH l k])=R:=by
     exact zed
    rw [e1,e2] at hN;have dk:(((xH l k).kind.toNat:Int)==0)=false:=by rw [Bi,<- e1];exact hz
    have htf:(xH l k).fr=k:=rfl;generalize xH l k=t at *;have HLR:=hid hLR;have hltF:=lt_of_block hF;have hown2:=hid hown;clear hL hst hz hLR h0 h2 hB0 hB2 e1 e2 hown;go_wp2_with (first|(go_at_call 130;refine hN.mono ?_;rintro e w3 ⟨rfl,hb3⟩;have h3:=(hb3.block _ hltF).trans hF;have hB3:=dA hB hb3;have hown3:=LD hown2.out hb3;have hsz3:=hb3.size;have hp3:=hB3.size;clear hb3)|(at_builtin;refine wpList_append_lies _ rfl _ _ 34 rfl (w.heap.size+1) 56 iT _ 3 24 Tryz.underToks hiT hz0 hz1 hz2 rfl Ct (.slice va vn vc) acc.length (BF acc) rfl (hown3.alloc _) ⟨w3.heap.size,0,none⟩ 1 1 [.int .u8 (t.kind.toNat:Int),i8 (k:Int),i8 (t.to:Int)] rfl rfl (At (B8 _ _)) Dq Ct Da Cs Cv _ rfl ?_;intro g cap w6 hown6 hgrow6 hat6 hlt6;have hb5:=(N' w3.heap.size w3).alloc (C' _) (Obj.cells #[.int .u8 (t.kind.toNat:Int),i8 (k:Int),i8 (t.to:Int)] 56);have hF6:=(hgrow6.block w.heap.size Cv (fun h=>Jq)).trans ((hb5.block _ Cs).trans h3)));exact za6
  ·rw [RV hkl] at hL;have d2:decide ((k:Int) < (l.length:Int))=false:=by simpa using hkl
   have HL:=hid (Az hL (Az hown hB));obtain⟨c0,c1,f0,f1⟩:=tA hF;clear hL hown h0 h2 hB0 hB2 hj;go_wp2_with fail;rw [<- HL.out.1];have u9:=VD hF (i8 0) (i8 0);have HB9:=hid ((HL.out.2.2.setCell (p:=(y8 w.heap.size 0)) (C' _) (i8 0)).setCell (p:=(y8 w.heap.size 1)) (C' _) (i8 0));have HO9:=hid (rA (rA HL.out.2.1 (y8 w.heap.size 0) Cu (i8 0)) (y8 w.heap.size 1) Cu (i8 0));obtain⟨q0,q1,_⟩:=tA u9;generalize (wr.setCell (y8 w.heap.size 0) (i8 0)).setCell (y8 w.heap.size 1) (i8 0)=w9 at *;refine Ca (v:=.tuple #[.slice va vn vc,qA 0 0]) ?_ rfl ⟨.slice va vn vc,rfl,jE HO9.out Cs,HB9.out⟩;exact zcw
end Ck
namespace Ck
open Go.RowKit
variable {w w':World}
theorem qX7 (s:List UInt8):Calls Tryz.prog 46 #[.string ⟨s.toArray⟩] w (TI (wH s) w):=by
 have h0:=B8 w (Obj.cells #[i8 0,i8 0] 28);have hB0:=(N' w.heap.size w).alloc (C' _) (Obj.cells #[i8 0,i8 0] 28);have HA:=fun (w1:World)=>dQ6 (w:=w1) s
 rw [GX8];have hlt0:=lt_of_block h0;cases hA:cK s with
 | bad er a =>
  obtain⟨her,_⟩:=eQ hA;rw [hA] at HA;have hne:((er:Nat):Int)≠0:=Cs
  have hne2:(((er:Nat):Int)==0)=false:=Ex
  unfold TI qA at HA
  go_in
  go_upto_region 1 with fail;generalize w.alloc (Obj.cells #[i8 0,i8 0] 28)=wA at *;go_wp2_with (go_at_call 81;refine (HA wA).mono ?_;rintro e w1 ⟨rfl,hb⟩;have k6:=(hb.block _ hlt0).trans h0;have hBw:=dA hB0 hb;clear hb);have h3:=(Af w1 (Obj.cells #[i8 (er:Int),i8 (a:Int)] 28) w.heap.size (lt_of_block k6)).trans k6;have h4:=B8 w1 (Obj.cells #[i8 (er:Int),i8 (a:Int)] 28);have hB2:=hid (hBw.alloc hBw.size (Obj.cells #[i8 (er:Int),i8 (a:Int)] 28));have HS:=hid (show w.heap.size≠w1.heap.size by have:=lt_of_block k6;omega);clear h0 hB0 k6 hBw;generalize w1.alloc (Obj.cells #[i8 (er:Int),i8 (a:Int)] 28)=w2 at *;obtain⟨c0,c1,f0,f1⟩:=tA h3;obtain⟨e0,e1,_⟩:=tA h4;have u9:=hid (VD h3 (i8 (er:Int)) (i8 (a:Int)));clear h3 h4;go_region
  all_goals (go_wp2_with fail)
  all_goals
   have HB9:=hid ((hB2.out.setCell (p:=(y8 w.heap.size 0)) (C' _) (i8 (er:Int))).setCell (p:=(y8 w.heap.size 1)) (C' _) (i8 (a:Int)));obtain⟨q0,q1,_⟩:=tA u9.out;generalize (w2.setCell (y8 w.heap.size 0) (i8 (er:Int))).setCell (y8 w.heap.size 1) (i8 (a:Int))=w9 at *;refine Ca (v:=.tuple #[.slice none 0 0,qA er a]) ?_ rfl ⟨rfl,HB9.out.drew⟩;simp [results,Tryz.results46,go_sem,q0,q1,qA]
 | ok l =>
  obtain⟨hfit,hlen,hs⟩:=lS hA;rw [hA] at HA;unfold TI qA at HA
  show Calls _ _ _ _ (TI (.ok (sX0 s l)) w)
  obtain⟨R,hRR⟩:∃ R,R=sX0 s l:=⟨_,rfl⟩;rw [<- hRR];have HRR:=hid hRR;obtain⟨iT,hiT,hz0,hz1,hz2⟩:=info_parts Tryz.infoTok;clear hRR
  go_in
  go_upto_region 1 with fail;generalize w.alloc (Obj.cells #[i8 0,i8 0] 28)=wA at *;go_wp2_with (go_at_call 81;refine (HA wA).mono ?_;rintro e w1 ⟨tv,rfl,hrow,hb⟩;obtain⟨va,vc,rfl⟩:=bE hrow;have k6:=(hb.block _ hlt0).trans h0;have hBw:=dA hB0 hb;clear hb);have hrf:=hrow.alloc (Obj.cells #[i8 0,i8 0] 28);have kf:=(Af w1 (Obj.cells #[i8 0,i8 0] 28) w.heap.size (lt_of_block k6)).trans k6;have hBf:=hBw.alloc hBw.size (Obj.cells #[i8 0,i8 0] 28);have hnf:=B8 w1 (Obj.cells #[i8 0,i8 0] 28);obtain⟨n0,n1,_⟩:=tA hnf;clear hrow k6 hBw h0 hB0 hlt0 HA hnf;generalize w1.alloc (Obj.cells #[i8 0,i8 0] 28)=wf at *;have HC:=hid (Az hrf (Az kf hBf));have HS:=hid (show s.length<=1125899906842624 by omega);have HLN:=hid (show l.length<=1099511627776 by omega);have HLS:=hid (show l.length<=65536 by omega);have HOK:=hid (show ∀ t∈l,t.fr<=t.to/\t.to<=s.length from fun t ht=>by have:=hfit t ht;omega);have hwf:=lt_of_block kf;have HWF:=hid hwf;clear hrf kf hBf hfit hlen hs hA hwf;go_wp2_with fail;clear n0 n1
  go_loopg [6,7] l.length (fun j v6 v7 wr=>∃ (i:Nat) (out:List Tk),v7=i8 (i:Int)/\i+j=l.length/\wr.ownsRow wf.heap.size 56 3 v6 out.length (BF out)/\Below wf.heap.size wf wr/\out++sX0 s (l.drop i)=R/\out.length<=2*i)
  case atStart=>exact⟨0,[],rfl,Cs,⟨rfl,.inl ⟨rfl,rfl⟩⟩,N' _ _,by rw [HRR.out];rfl,C' _⟩
  case round =>
   obtain⟨i,out,rfl,hj,hown,hB,hF,hn⟩:=hrel;obtain⟨ga,gn,gc,rfl⟩:=ND hown;by_cases hi:i < l.length
   ·have d2:decide ((i:Int) < (l.length:Int))=true:=by simpa using hi
    obtain⟨t,ht⟩:∃ t,l[i]?=some t:=⟨l[i],O' hi⟩;obtain⟨q1,q2⟩:=HOK.out t (List.mem_of_getElem? ht);obtain⟨b,hva,_,hbl,_⟩:=GA HC.out.1 (lH ht).1;subst hva;have TA:=hid (show ∀ w',Below wf.heap.size wf w'->LX8 w' b 0 l from fun w' hb j u hu=>by
     obtain⟨x0,x1,x2⟩:=lH hu;obtain⟨b0,e0,_,_,y0⟩:=GA HC.out.1 x0;obtain⟨b1,e1,_,_,y1⟩:=GA HC.out.1 x1;obtain⟨b2,e2,_,_,y2⟩:=GA HC.out.1 x2;cases e0;cases e1;cases e2;simp only [Nat.zero_add];exact⟨aA hb y0,aA hb y1,aA hb y2⟩)
    have KP:=hid (show ∀ w',Below wf.heap.size wf w'->w'.cell? ⟨b,i*3,none⟩=some (.int .u8 (t.kind.toNat:Int))/\w'.cell? ⟨b,i*3+1,none⟩=some (i8 (t.fr:Int))/\w'.cell? ⟨b,i*3+2,none⟩=some (i8 (t.to:Int)) from fun w' hb=>by have:=TA.out w' hb i t ht;simpa only [Nat.zero_add] using this);obtain⟨z0,z1,z2⟩:=KP.out _ hB;have hdr:l.drop i=t::l.drop (i+1):=by
     exact zdt
    rw [hdr] at hF;unfold sX0 at hF;have htx:(s.drop t.fr).take (t.to - t.fr)=oG s t:=rfl;obtain⟨X,hX⟩:∃ X,X=oG s t:=⟨_,rfl⟩;rw [<- hX] at hF htx;obtain⟨en,hen⟩:∃ en,en=IX0 s (l.drop (i+1)):=⟨_,rfl⟩;rw [<- hen] at hF;have HEN:=hid hen.symm;have i0:(0:Int)<=(i:Int):=Cs
    have i1:(i:Int) < (l.length:Int):=Cs
    have p1:(t.fr:Int)<=(t.to:Int):=Cs
    have p2:(t.to:Int)<=(s.length:Int):=Cs
    have HF:=hid hF;have HJ:=hid hj;have HB:=hid hB;have HO:=hid hown;have HN:=hid hn;clear hF hj hB hown hdr ht hX hen d2 q1 q2 hn hbl;go_wp2_with fail;refine (CX2 t.kind).mono ?_;rintro e w3 ⟨rfl,rfl⟩;cases hsb:kJ t.kind with
    | true =>
     have HF2:=hid (show out++sX0 s (l.drop (i+1))=R by rw [<- HF.out,hsb];rfl);clear hsb;go_wp2_with fail;have:=HJ.out;go_roundg (gk - 1)
     case measure=>omega
     case rel=>have:=HLS.out;exact⟨i+1,out,congrArg (Value.int .i64) (IntWalk.wrap64_in ((i:Int)+1) ⟨Cs,Cs⟩),Cs,HO.out,HB.out,HF2.out,Dz⟩
    | false =>
     have HF2:=hid (show out++(t::(if (vP t.kind X&&en)=true then ⟨9,t.to,t.to⟩::sX0 s (l.drop (i+1)) else sX0 s (l.drop (i+1))))=R by rw [<- HF.out,hsb];rfl);have HZ:=hid (show out.length<=1000000 by have:=HN.out;have:=HLS.out;omega);clear hsb;have hwz:=HB.out.size;go_wp2_with (at_builtin;refine wpList_append_lies _ rfl _ _ 34 rfl wf.heap.size 56 iT _ 3 24 Tryz.underToks hiT hz0 hz1 hz2 rfl Ct (.slice ga gn gc) out.length (BF out) rfl (HO.out.alloc _) (y8 w3.heap.size 0) 1 1 [.int .u8 (t.kind.toNat:Int),i8 (t.fr:Int),i8 (t.to:Int)] rfl rfl (At (B8 _ _)) Dq Ct (by have:=HZ.out;unfold maxLen;omega) Du Cv _ rfl ?_;intro g6 c6 w6 hown6 hgrow6 hat6 hlt6;have HO6:=hid hown6;have HD6:=hid (show Below wf.heap.size wf w6.drew from ((HB.out.alloc HB.out.size (Obj.cells #[.int .u8 (t.kind.toNat:Int),i8 (t.fr:Int),i8 (t.to:Int)] 56)).grown hgrow6 Cv (fun j hj=>by have:=(HO.out.lt j hj).1;omega)).drew);clear hown6 hgrow6 hat6 hlt6);clear z0 z1 z2 hwz;obtain⟨y0,y1,y2⟩:=KP.out _ HD6.out;replace HO6:=hid (HO6.out.drew);cases heb:vP t.kind X with
     | false =>
      have HF3:=hid (show (out++[t])++sX0 s (l.drop (i+1))=R by rw [<- HF2.out,heb];simp);refine Ce (S:=fun w'=>w'.cell? ⟨b,i*3,none⟩=some (.int .u8 (t.kind.toNat:Int))/\w'.cell? ⟨b,i*3+1,none⟩=some (i8 (t.fr:Int))/\w'.cell? ⟨b,i*3+2,none⟩=some (i8 (t.to:Int))) Cw ?_ (fun hHeld=>?_)
      ·exact zdy
      refine tn_ 0 ?_;refine tn_ 1 ?_;refine tn_ 2 ?_;refine tn_ 3 ?_;refine tn_ 4 ?_;refine tn_ 5 ?_;refine tn_ 6 ?_;refine tn_ 7 ?_;refine tn_ 8 ?_;refine tn_ 9 ?_;refine tn_ 10 ?_;refine tn_ 11 ?_;refine tn_ 12 ?_;refine tn_ 13 ?_;refine tn_ 14 ?_;refine tn_ 15 ?_;refine tn_ 16 ?_;refine Cb (rs:=[17]) Cw Cu (Cc (o:=?_) ?_ (fun Kk hKk=>?_) Cd)
      rotate_left
      ·exact Cf
      go_simp;go_at_call 83;refine (wX2 t.kind X).mono ?_;rw [heb];rintro e w7 ⟨rfl,hb7⟩;have hb76:=dA HD6.out hb7;obtain⟨y0,y1,y2⟩:=KP.out _ hb76;have HB7:=hid hb76;have HO7:=hid (LD HO6.out hb7);clear hb7 hb76;refine hKk.out _ _ ?_ (fun hHeld17=>?_)
      ·exact zdy
      clear hKk Kk
      try simp only [Act.put,Q',Z',Aa]
      refine tn_ 18 ?_;refine tm_ 19 ?_;refine tm_ 20 ?_;refine tm_ 21 ?_;refine tm_ 22 ?_;refine tn_ 23 ?_;refine wpAnyH_done Cw ?_ _;clear heb hHeld;go_wp2_with fail;have:=HJ.out;go_roundg (gk - 1)
      case measure=>omega
      case rel=>have:=HLS.out;exact⟨i+1,out++[t],congrArg (Value.int .i64) (IntWalk.wrap64_in ((i:Int)+1) ⟨Cs,Cs⟩),Cs,by rw [GH,V'];exact HO7.out,HB7.out,HF3.out,Hq⟩
     | true =>
      cases en with
      | false =>
       have HF3:=hid (show (out++[t])++sX0 s (l.drop (i+1))=R by rw [<- HF2.out,heb];simp);refine Ce (S:=fun w'=>w'.cell? ⟨b,i*3,none⟩=some (.int .u8 (t.kind.toNat:Int))/\w'.cell? ⟨b,i*3+1,none⟩=some (i8 (t.fr:Int))/\w'.cell? ⟨b,i*3+2,none⟩=some (i8 (t.to:Int))) Cw ?_ (fun hHeld=>?_)
       ·exact zdy
       refine tn_ 0 ?_;refine tn_ 1 ?_;refine tn_ 2 ?_;refine tn_ 3 ?_;refine tn_ 4 ?_;refine tn_ 5 ?_;refine tn_ 6 ?_;refine tn_ 7 ?_;refine tn_ 8 ?_;refine tn_ 9 ?_;refine tn_ 10 ?_;refine tn_ 11 ?_;refine tn_ 12 ?_;refine tn_ 13 ?_;refine tn_ 14 ?_;refine tn_ 15 ?_;refine tn_ 16 ?_;refine Cb (rs:=[17]) Cw Cu (Cc (o:=?_) ?_ (fun Kk hKk=>?_) Cd)
       rotate_left
       ·exact Cf
       go_simp;go_at_call 83;refine (wX2 t.kind X).mono ?_;rw [heb];rintro e w7 ⟨rfl,hb7⟩;have hb76:=dA HD6.out hb7;obtain⟨y0,y1,y2⟩:=KP.out _ hb76;have HB7:=hid hb76;have HO7:=hid (LD HO6.out hb7);clear hb7 hb76;refine hKk.out _ _ ?_ (fun hHeld17=>?_)
       ·exact zdy
       clear hKk Kk
       try simp only [Act.put,Q',Z',Aa]
       refine tn_ 18 ?_;refine tn_ 19 ?_;refine tn_ 20 ?_;refine tn_ 21 ?_;refine Cb (rs:=[22]) Cw Cu (Cc (o:=?_) ?_ (fun Kk hKk=>?_) Cd)
       rotate_left
       ·exact Cf
       go_simp;go_at_call 84;refine (bX3 s l i b 0 vc (TA.out _ HB7.out) HOK.out HS.out HLN.out hi).mono ?_;rintro e w8 ⟨rfl,rfl⟩;rw [HEN.out];refine hKk.out _ _ ?_ (fun hHeld22=>?_)
       ·exact zdy
       clear hKk Kk
       try simp only [Act.put,Q',Z',Aa]
       refine tn_ 23 ?_;refine wpAnyH_done Cw ?_ _;clear heb hHeld;go_wp2_with fail;have:=HJ.out;go_roundg (gk - 1)
       case measure=>omega
       case rel=>have:=HLS.out;exact⟨i+1,out++[t],congrArg (Value.int .i64) (IntWalk.wrap64_in ((i:Int)+1) ⟨Cs,Cs⟩),Cs,by rw [GH,V'];exact HO7.out,HB7.out,HF3.out,Hq⟩
      | true =>
       have HF3:=hid (show ((out++[t])++[⟨9,t.to,t.to⟩])++sX0 s (l.drop (i+1))=R by rw [<- HF2.out,heb];simp);refine Ce (S:=fun w'=>w'.cell? ⟨b,i*3,none⟩=some (.int .u8 (t.kind.toNat:Int))/\w'.cell? ⟨b,i*3+1,none⟩=some (i8 (t.fr:Int))/\w'.cell? ⟨b,i*3+2,none⟩=some (i8 (t.to:Int))) Cw ?_ (fun hHeld=>?_)
       ·exact zdy
       refine tn_ 0 ?_;refine tn_ 1 ?_;refine tn_ 2 ?_;refine tn_ 3 ?_;refine tn_ 4 ?_;refine tn_ 5 ?_;refine tn_ 6 ?_;refine tn_ 7 ?_;refine tn_ 8 ?_;refine tn_ 9 ?_;refine tn_ 10 ?_;refine tn_ 11 ?_;refine tn_ 12 ?_;refine tn_ 13 ?_;refine tn_ 14 ?_;refine tn_ 15 ?_;refine tn_ 16 ?_;refine Cb (rs:=[17]) Cw Cu (Cc (o:=?_) ?_ (fun Kk hKk=>?_) Cd)
       rotate_left
       ·exact Cf
       go_simp;go_at_call 83;refine (wX2 t.kind X).mono ?_;rw [heb];rintro e w7 ⟨rfl,hb7⟩;have hb76:=dA HD6.out hb7;obtain⟨y0,y1,y2⟩:=KP.out _ hb76;have HB7:=hid hb76;have HO7:=hid (LD HO6.out hb7);clear hb7 hb76;refine hKk.out _ _ ?_ (fun hHeld17=>?_)
       ·exact zdy
       clear hKk Kk
       try simp only [Act.put,Q',Z',Aa]
       refine tn_ 18 ?_;refine tn_ 19 ?_;refine tn_ 20 ?_;refine tn_ 21 ?_;refine Cb (rs:=[22]) Cw Cu (Cc (o:=?_) ?_ (fun Kk hKk=>?_) Cd)
       rotate_left
       ·exact Cf
       go_simp;go_at_call 84;refine (bX3 s l i b 0 vc (TA.out _ HB7.out) HOK.out HS.out HLN.out hi).mono ?_;rintro e w8 ⟨rfl,rfl⟩;rw [HEN.out];refine hKk.out _ _ ?_ (fun hHeld22=>?_)
       ·exact zdy
       clear hKk Kk
       try simp only [Act.put,Q',Z',Aa]
       refine tn_ 23 ?_;refine wpAnyH_done Cw ?_ _;clear heb hHeld hHeld17 hHeld22 y0 y1 y2;go_upto_region 11 with fail;have:=HZ.out;have hw7:=HB7.out.size;refine Ce (S:=fun w'=>w'.cell? ⟨b,i*3,none⟩=some (.int .u8 (t.kind.toNat:Int))/\w'.cell? ⟨b,i*3+1,none⟩=some (i8 (t.fr:Int))/\w'.cell? ⟨b,i*3+2,none⟩=some (i8 (t.to:Int))) Cw ?_ (fun hHeld=>?_)
       ·exact KP.out _ (HB7.out.drew)
       refine tn_ 0 ?_;refine tn_ 1 ?_;refine tn_ 2 ?_;refine tn_ 3 ?_;refine tn_ 4 ?_;refine tn_ 5 ?_;refine tn_ 6 ?_;refine tn_ 7 ?_;refine tn_ 8 ?_;refine tn_ 9 ?_;refine tn_ 10 ?_;refine tn_ 11 ?_;refine Cb (rs:=[12]) Cw Cu (Cc (o:=?_) ?_ (fun Kk hKk=>?_) Cd)
       rotate_left
       ·exact Cf
       go_simp;go_wp2_with fail;refine hKk.out _ _ ?_ (fun hHeld12=>?_)
       ·exact KP.out _ ((HB7.out.drew).alloc (HB7.out.drew).size _)
       clear hKk Kk
       try simp only [Act.put,Q',Z',Aa]
       refine Cb (rs:=[13]) Cw Cu (Cc (o:=?_) ?_ (fun Kk hKk=>?_) Cd)
       rotate_left
       ·exact Cf
       refine step_append_lies _ Db _ _ _ Db wf.heap.size 56 iT _ 3 24 Tryz.underToks hiT hz0 hz1 hz2 rfl Cs (.slice (some (y8 g6 0)) (out.length+1) c6) (out.length+1) (BF out++BF [t]) Db ((HO7.out.drew).alloc _) (y8 w8.heap.size 0) 1 1 [.int .u8 9,i8 (t.to:Int),i8 (t.to:Int)] Db Db (At (cs:=#[.int .u8 9,i8 (t.to:Int),i8 (t.to:Int)]) (t:=56) (fr:=(0,0)) (B8 w8.drew _)) Dq Cs Da Cs Cv (w8.heap.size+1) Cu ?_;intro g9 c9 w9 hown9 hgrow9 hat9 hlt9;have HB9:=hid (show Below wf.heap.size wf w9 from (((HB7.out.drew).alloc (HB7.out.drew).size _).grown hgrow9 (by have:=HB7.out.size;simp;omega) (fun j hj=>by have:=(HO7.out.lt j hj).1;omega)));have HO9:=hid hown9;clear hown9 hgrow9 hat9 hlt9;refine hKk.out _ _ ?_ (fun hHeld13=>?_)
       ·exact KP.out _ HB9.out
       clear hKk Kk
       try simp only [Act.put,Q',Z',Aa]
       refine tn_ 14 ?_;refine wpAnyH_done Cw ?_ _;have:=HJ.out;go_wp2_with fail;go_roundg (gk - 1)
       case measure=>omega
       case rel=>have:=HLS.out;exact⟨i+1,(out++[t])++[⟨9,t.to,t.to⟩],congrArg (Value.int .i64) (IntWalk.wrap64_in ((i:Int)+1) ⟨Cs,Cs⟩),Cs,by rw [GH,GH,V',V'];exact HO9.out,HB9.out,HF3.out,by have:=HN.out;simp only [V',Ae,Am];omega⟩
   ·have d2:decide ((i:Int) < (l.length:Int))=false:=by simpa using hi
    rw [List.drop_of_length_le Cs] at hF;have HF:=hid (show out=R by rw [<- hF];simp [sX0]);have kF:=(hB.block w.heap.size HWF.out).trans HC.out.2.1;obtain⟨c0,c1,f0,f1⟩:=tA kF;have HO:=hid hown;have hB9:Below w.heap.size w wr:=HC.out.2.2.trans (hB.mono HC.out.2.2.size);have HBB:=hid hB9;clear hF hn hown hB hj hB9;go_wp2_with fail;have u9:=VD kF (i8 0) (i8 0);have HB9:=hid ((HBB.out.setCell (p:=(y8 w.heap.size 0)) (C' _) (i8 0)).setCell (p:=(y8 w.heap.size 1)) (C' _) (i8 0));have HO9:=hid (rA (rA HO.out (y8 w.heap.size 0) (by have:=HWF.out;simp;omega) (i8 0)) (y8 w.heap.size 1) (by have:=HWF.out;simp;omega) (i8 0));obtain⟨q0,q1,_⟩:=tA u9;rw [<- HF.out];generalize (wr.setCell (y8 w.heap.size 0) (i8 0)).setCell (y8 w.heap.size 1) (i8 0)=w9 at *;refine Ca (v:=.tuple #[.slice ga gn gc,qA 0 0]) ?_ rfl ⟨_,rfl,jE HO9.out (by have:=HWF.out;omega),HB9.out⟩;simp [results,Tryz.results46,go_sem,q0,q1,qA]
end Ck
