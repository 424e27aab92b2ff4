import Derived.Test.YtfmpphplbdojbaaGreatDoorQBS
import Derived.Test.YtfmpphplbdojbaaGreatDoorQAF
namespace Go.Proofs.YtfmpphplbdojbaaGreatDoor
open Lib(hid)
set_option linter.all false
set_option maxHeartbeats 40000000
set_option maxRecDepth 100000
namespace Ck
open Go.RowKit
variable {w w':World}
theorem FQ8 {w:World}{base X:Nat}{v:Value}{n:Nat}{xs:List Value}{cs:Array Value} (h:w.ownsRow base 5 1 v n xs) (hX:w.heap[X]?=some (.cells cs 167 (0,0))):v.ownBlock≠some X:=by
 rcases h.2 with ⟨e1,e2⟩|⟨g,cap,cur,e1,e2,e3,e4,e5,e6,e7⟩
 ·rw [e1];simp [Value.ownBlock]
 ·rw [e1];simp only [Value.ownBlock];intro e;cases e;rw [hX] at e3;cases e3
theorem JQ5 {w w3:World}{X:Nat}{o:Obj}{row:Option Nat} (hg:w.grownBy w3 row) (h:w.heap[X]?=some o) (hlt:X < w.heap.size) (hne:row≠some X):w3.heap[X]?=some o:=by
 rw [<- h];exact hg.block X hlt (fun e=>hne e.symm)
theorem qQ7 {l:List UInt8}{m:UInt8}{f it i:Nat} (hlt:i < l.length) (hf:l.length<=i+f):∃ g,f=g+1/\rdN l m f it i=if l[i]=m then (if m=34∨it=1 then some (i+1) else none) else if m=39/\it=1 then none else if itN l m i=0 then none else rdN l m g (it+1) (i+itN l m i):=by
 obtain⟨g,rfl⟩:∃ g,f=g+1:=⟨f - 1,Cf⟩;refine⟨g,rfl,?_⟩
 conv=>lhs;unfold rdN
 rw [dif_pos hlt]
theorem wQ6 {l:List UInt8}{m:UInt8}{f it i:Nat} (h:l.length<=i):rdN l m f it i=none:=by
 cases f with
 | zero=>rfl
 | succ f=>unfold rdN;rw [dif_neg Cf]
theorem jQ8 (l:List UInt8) (m:UInt8) (i:Nat):itN l m i<=10:=by
 unfold itN;split
 ·rename_i h;split
  ·unfold xQ5
   repeat' split
   all_goals omega
  ·split
   ·exact Cf
   ·split
    ·exact Cf
    ·have:=DQ6 h;omega
 ·exact Cf
theorem oQ9 (l:List UInt8) (hl:l.length<=1048576) (h0:0 < l.length) (hc:l[0]=34):Calls Tryz.prog 96 #[.string ⟨l.toArray⟩,.int .i64 0] w fun e w'=>lQ7 l e/\Below w.heap.size w w':=by
 have HE:Hid (VQ4 l=rdN l 34 l.length 0 1):=hid (by unfold VQ4;rw [dif_pos h0,if_neg (by rw [hc];decide),if_pos (.inl hc),hc]);have hcq:(l[0].toNat:Int)=34:=by rw [hc];rfl
 have hll:(0:Int) < (l.length:Int):=Cf
 have hne:¬ l=[]:=by intro e;rw [e] at h0;simp at h0
 clear hc;go_enter Tryz.func96,Tryz.ntmps96;go_wp2_with fail;clear hcq
 go_loopw [9,10] (fun u9 u10 wr=>∃ i f it:Nat,u10=.int .i64 (i:Int)/\1<=i/\i<=l.length+10/\Own w wr u9 (4*i)/\l.length<=i+f/\rdN l 34 f it i=VQ4 l/\Below w.heap.size w wr) (fun _ u _=>(l.length - intOf u).toNat)
 case atStart=>exact⟨1,l.length,0,rfl,Cf,Cf,⟨[],As _ _ _ _,Cm⟩,Cf,HE.out.symm,J' _ _⟩
 case round =>
  obtain⟨i,f,it,rfl,hi1,hil,⟨bs,hown,hbs⟩,hf,hrd,hb⟩:=hrel;have HO:=hid hown;have HRD:=hid hrd;have HB:=hid hb;have hcv:=fun j=>cM hown j
  clear hown hrd hb;by_cases hlt:i < l.length
  ·obtain⟨c,hc⟩:∃ c,c=l[i]:=⟨_,rfl⟩;have hcq:(l[i].toNat:Int)=(c.toNat:Int):=by rw [hc]
   obtain⟨g,hg,hR⟩:=qQ7 (m:=34) (it:=it) hlt hf;rw [<- hc,HRD.out] at hR;have HR:=hid hR;have i0:(0:Int)<=(i:Int):=Cf
   have i1:(i:Int) < (l.length:Int):=Cf
   clear hc hR;by_cases h34:(c.toNat:Int)=34
   ·have hE:=HR.out;rw [if_pos (show c=34 from (yQ4 c 34 Ch).1 h34),if_pos (.inl rfl)] at hE;have HE2:=hid hE;clear hE;go_wp2_with fail;go_quiet (fail);go_wp2_with fail
    (try simp only [Exit.inBlock,Exit.then]);refine bodyPost_ret (RC rfl _ _ _) rfl ?_
    exact⟨sQ6 HE2.out Cf,Num.kL HB.out _⟩
   ·have hE:=HR.out;rw [if_neg (fun h:c=34=>h34 ((yQ4 c 34 Ch).2 h)),if_neg Cm] at hE;have HE2:=hid hE;have hbd:=jQ8 l 34 i;clear hE hcv HR;go_wp2_with fail;refine (gQ6 l 34 i hl hlt).mono ?_;rintro e w2 ⟨⟨s,rfl,hs4⟩,hb2⟩;obtain⟨L,hL⟩:∃ L,L=itN l 34 i:=⟨_,rfl⟩;rw [<- hL] at HE2 hbd ⊢;clear hL;have HB2:=hid hb2;clear hb2;by_cases hL0:(L:Int)=0
    ·have hE:=HE2.out;rw [if_pos Cf] at hE;have HE3:=hid hE;clear hE;go_wp2_with fail
     (try simp only [Exit.inBlock,Exit.then]);refine bodyPost_ret (RC rfl _ _ _) rfl ?_
     exact⟨KQ4 HE3.out rfl,(dA HB.out HB2.out).alloc (dA HB.out HB2.out).size _⟩
    ·have hE:=HE2.out;rw [if_neg Cf] at hE;have HE3:=hid hE;clear hE HE2;go_upto_region 14 with fail;have hX:=heap_alloc_new w2 (Obj.cells #[Value.int IntKind.i64 (L:Int),Value.string ⟨s.toArray⟩] 167);have hB3:=(dA HB.out HB2.out).alloc (dA HB.out HB2.out).size (Obj.cells #[Value.int IntKind.i64 (L:Int),Value.string ⟨s.toArray⟩] 167);have hO3:=(LD HO.out HB2.out).alloc (Obj.cells #[Value.int IntKind.i64 (L:Int),Value.string ⟨s.toArray⟩] 167);have hz:w2.heap.size < (w2.alloc (Obj.cells #[Value.int IntKind.i64 (L:Int),Value.string ⟨s.toArray⟩] 167)).heap.size:=by simp
     generalize w2.alloc (Obj.cells #[Value.int IntKind.i64 (L:Int),Value.string ⟨s.toArray⟩] 167)=w3 at *;have HX:=hid (And.intro hX hz);have HB3:=hid hB3;have HO3:=hid hO3;obtain⟨n,hn⟩:∃ n,n=s.length:=⟨_,rfl⟩;have HN:=hid hn;have hn4:n<=4:=Cf
     have HL0:=hid hL0;clear hX hB3 hO3 hz hn hs4 HO HB2;go_wp2_with fail;clear hL0 h34 i0 i1 hcq;generalize ((L:Int)==0)=z1
     go_loopw [9,12] (fun u9 u12 wq=>∃ k:Nat,u12=.int .i64 (k:Int)/\k<=n/\Own w wq u9 (4*i+k)/\(wq.heap[w2.heap.size]?=some (Obj.cells #[Value.int IntKind.i64 (L:Int),Value.string ⟨s.toArray⟩] 167 (0,0))/\w2.heap.size < wq.heap.size)/\Below w.heap.size w wq) (fun _ u _=>(n - intOf u).toNat)
     case atStart=>exact⟨0,rfl,Cf,⟨bs,HO3.out,Cf⟩,HX.out,HB3.out⟩
     case round =>
      obtain⟨k,rfl,hkn,⟨bs2,hown2,hbs2⟩,⟨hX2,hz2⟩,hb4⟩:=hrel;have HO2:=hid hown2;have HX2:=hid (And.intro hX2 hz2);have HB4:=hid hb4;obtain⟨d0,d1,g0,g1⟩:=tA hX2;clear hown2 hX2 hz2 hb4;have hsn:(s.length:Int)=(n:Int):=Hi
      by_cases hk:k < n
      ·have hks:k < s.length:=by have:=HN.out;omega
       obtain⟨b,hb⟩:∃ b,b=s[k]:=⟨_,rfl⟩;have hbq:(s[k].toNat:Int)=(b.toNat:Int):=by rw [hb]
       have q0:(0:Int)<=(k:Int):=Cf
       have q1:(k:Int) < (s.length:Int):=Cf
       have q2:(k:Int) < (n:Int):=Cf
       obtain⟨iN,hiN,hz0,hz1,hz2⟩:=info_parts Tryz.infoU8;obtain⟨va,vc,rfl⟩:=Grd.ID HO2.out;have hown:=HO2.out;have hwz:=HB4.out.size;have hne2:=FQ8 hown HX2.out.1;have HNE:=hid hne2;clear hb hne2;go_wp2_with (at_builtin;refine wpList_append_lies _ rfl (.tmp 83) (.tmp 88) 40 rfl w.heap.size 5 iN _ 1 1 Tryz.underBs hiN hz0 hz1 hz2 rfl Cf (.slice va bs2.length vc) bs2.length (Lib.byteCells bs2) rfl (hown.alloc _) ⟨wr.heap.size,0,none⟩ 1 1 [.int .u8 (b.toNat:Int)] rfl rfl (Aq (cs:=#[.int .u8 (b.toNat:Int)]) (t:=5) (fr:=(0,0)) (heap_alloc_new wr _)) Eb Cf Cu Cf Cn (wr.heap.size+1) Cm ?_);intro gg cap w5 hown5 hgrow5 hat5 hlt5;have HB5:Hid (Below w.heap.size w w5):=hid ((HB4.out.alloc Cf _).grown hgrow5 Cn (fun k hk=>(hown.lt k hk).1));have HO5:=hid (PQ5 hown5 hbs2);have HX5:Hid (w5.heap[w2.heap.size]?=some (Obj.cells #[Value.int IntKind.i64 (L:Int),Value.string ⟨s.toArray⟩] 167 (0,0))/\w2.heap.size < w5.heap.size):=hid ⟨JQ5 hgrow5 (by rw [Ac _ _ _ HX2.out.2];exact HX2.out.1) (by simp;have:=HX2.out.2;omega) HNE.out,by have h1:=hgrow5.size;have h2:=HX2.out.2;simp at h1;omega⟩;clear hown5 hgrow5 hat5 hlt5 hown hwz hz0 hz1 hz2 hiN HO2 d0 d1 g0 g1;obtain⟨v3,hv3⟩:∃ v3,v3=Value.slice (some ⟨gg,0,none⟩) (bs2.length+1) cap:=⟨_,rfl⟩;rw [<- hv3] at HO5 ⊢;clear hv3;go_wp2_with fail;go_roundw
       case rel=>exact⟨k+1,Gv,Cf,HO5.out,HX5.out,HB5.out⟩
       case measure=>simp only [intOf];omega
      ·have hkn2:k=n:=by omega
       have q2:¬ (k:Int) < (n:Int):=Cf
       have q3:(i:Int)+(L:Int)=((i+L:Nat):Int):=Cf
       obtain⟨q,hq⟩:∃ q,q=i+L:=⟨_,rfl⟩;have HQ:=hid hq;rw [<- hq] at q3;have q4:q<=2097152:=Cf
       clear hq;go_wp2_with fail;go_roundw
       case rel=>exact⟨q,g,it+1,rfl,by have:=HQ.out;omega,by have:=HQ.out;omega,⟨bs2,HO2.out,by have:=HQ.out;have:=HL0.out;omega⟩,by have:=HQ.out;have:=HL0.out;omega,by rw [HQ.out];exact HE3.out.symm,HB4.out⟩
       case measure=>simp only [intOf];have:=HQ.out;have:=HL0.out;omega
  ·have hE:=HRD.out;rw [wQ6 Cf] at hE;have HE2:=hid hE;have i1:¬ (i:Int) < (l.length:Int):=by omega
   clear hE;go_wp2_with fail
   (try simp only [Exit.inBlock,Exit.then]);refine bodyPost_ret (RC rfl _ _ _) rfl ?_
   exact⟨KQ4 HE2.out.symm rfl,HB.out⟩
end Ck
namespace Ck
open Go.RowKit
variable {w w':World}
theorem AQ9 (l:List UInt8) (hl:l.length<=1048576) (h0:0 < l.length) (hc:l[0]=39):Calls Tryz.prog 96 #[.string ⟨l.toArray⟩,.int .i64 0] w fun e w'=>lQ7 l e/\Below w.heap.size w w':=by
 have HE:Hid (VQ4 l=rdN l 39 l.length 0 1):=hid (by unfold VQ4;rw [dif_pos h0,if_neg (by rw [hc];decide),if_pos (.inr hc),hc]);have hcq:(l[0].toNat:Int)=39:=by rw [hc];rfl
 have hll:(0:Int) < (l.length:Int):=Cf
 have hne:¬ l=[]:=by intro e;rw [e] at h0;simp at h0
 clear hc;go_enter Tryz.func96,Tryz.ntmps96;go_wp2_with fail;clear hcq
 go_loopw [9,10] (fun u9 u10 wr=>∃ i f it:Nat,u10=.int .i64 (i:Int)/\i=1/\it=0/\Own w wr u9 (4*i)/\l.length<=i+f/\rdN l 39 f it i=VQ4 l/\Below w.heap.size w wr) (fun _ u _=>(l.length - intOf u).toNat)
 case atStart=>exact⟨1,l.length,0,rfl,rfl,rfl,⟨[],As _ _ _ _,Cm⟩,Cf,HE.out.symm,J' _ _⟩
 case round =>
  obtain⟨i,f,it,rfl,hie,hit,⟨bs,hown,hbs⟩,hf,hrd,hb⟩:=hrel;have hil:i<=l.length+10:=Cf
  have HIT:=hid (And.intro hie hit);have hi1:1<=i:=Cf
  clear hit hie;have HO:=hid hown;have HRD:=hid hrd;have HB:=hid hb;have hcv:=fun j=>cM hown j
  clear hown hrd hb;by_cases hlt:i < l.length
  ·obtain⟨c,hc⟩:∃ c,c=l[i]:=⟨_,rfl⟩;have hcq:(l[i].toNat:Int)=(c.toNat:Int):=by rw [hc]
   obtain⟨g,hg,hR⟩:=qQ7 (m:=39) (it:=it) hlt hf;rw [<- hc,HRD.out] at hR;have HR:=hid hR;have i0:(0:Int)<=(i:Int):=Cf
   have i1:(i:Int) < (l.length:Int):=Cf
   clear hc hR;by_cases h39:(c.toNat:Int)=39
   ·have hE:=HR.out;rw [if_pos (show c=39 from (yQ4 c 39 Ch).1 h39),if_neg (by rw [HIT.out.2];decide)] at hE;have HE2:=hid hE;clear hE;have hi1':((i:Int)==1)=true:=by have:=HIT.out.1;simp;omega
    go_wp2_with fail
    (try simp only [Exit.inBlock,Exit.then]);refine bodyPost_ret (RC rfl _ _ _) rfl ?_
    exact⟨KQ4 HE2.out rfl,HB.out⟩
   ·have hE:=HR.out;rw [if_neg (fun h:c=39=>h39 ((yQ4 c 39 Ch).2 h)),if_neg (by rw [HIT.out.2];decide)] at hE;have HE2:=hid hE;have hbd:=jQ8 l 39 i;clear hE hcv HR;go_wp2_with fail;refine (gQ6 l 39 i hl hlt).mono ?_;rintro e w2 ⟨⟨s,rfl,hs4⟩,hb2⟩;obtain⟨L,hL⟩:∃ L,L=itN l 39 i:=⟨_,rfl⟩;rw [<- hL] at HE2 hbd ⊢;clear hL;have HB2:=hid hb2;clear hb2;by_cases hL0:(L:Int)=0
    ·have hE:=HE2.out;rw [if_pos Cf] at hE;have HE3:=hid hE;clear hE;go_wp2_with fail
     (try simp only [Exit.inBlock,Exit.then]);refine bodyPost_ret (RC rfl _ _ _) rfl ?_
     exact⟨KQ4 HE3.out rfl,(dA HB.out HB2.out).alloc (dA HB.out HB2.out).size _⟩
    ·have hE:=HE2.out;rw [if_neg Cf] at hE;have HE3:=hid hE;clear hE HE2;go_upto_region 14 with fail;have hX:=heap_alloc_new w2 (Obj.cells #[Value.int IntKind.i64 (L:Int),Value.string ⟨s.toArray⟩] 167);have hB3:=(dA HB.out HB2.out).alloc (dA HB.out HB2.out).size (Obj.cells #[Value.int IntKind.i64 (L:Int),Value.string ⟨s.toArray⟩] 167);have hO3:=(LD HO.out HB2.out).alloc (Obj.cells #[Value.int IntKind.i64 (L:Int),Value.string ⟨s.toArray⟩] 167);have hz:w2.heap.size < (w2.alloc (Obj.cells #[Value.int IntKind.i64 (L:Int),Value.string ⟨s.toArray⟩] 167)).heap.size:=by simp
     generalize w2.alloc (Obj.cells #[Value.int IntKind.i64 (L:Int),Value.string ⟨s.toArray⟩] 167)=w3 at *;have HX:=hid (And.intro hX hz);have HB3:=hid hB3;have HO3:=hid hO3;obtain⟨n,hn⟩:∃ n,n=s.length:=⟨_,rfl⟩;have HN:=hid hn;have hn4:n<=4:=Cf
     have HL0:=hid hL0;clear hX hB3 hO3 hz hn hs4 HO HB2;go_wp2_with fail;clear hL0 h39 i0 i1 hcq;generalize ((L:Int)==0)=z1
     go_loopw [9,12] (fun u9 u12 wq=>∃ k:Nat,u12=.int .i64 (k:Int)/\k<=n/\Own w wq u9 (4*i+k)/\(wq.heap[w2.heap.size]?=some (Obj.cells #[Value.int IntKind.i64 (L:Int),Value.string ⟨s.toArray⟩] 167 (0,0))/\w2.heap.size < wq.heap.size)/\Below w.heap.size w wq) (fun _ u _=>(n - intOf u).toNat)
     case atStart=>exact⟨0,rfl,Cf,⟨bs,HO3.out,Cf⟩,HX.out,HB3.out⟩
     case round =>
      obtain⟨k,rfl,hkn,⟨bs2,hown2,hbs2⟩,⟨hX2,hz2⟩,hb4⟩:=hrel;have HO2:=hid hown2;have HX2:=hid (And.intro hX2 hz2);have HB4:=hid hb4;obtain⟨d0,d1,g0,g1⟩:=tA hX2;clear hown2 hX2 hz2 hb4;have hsn:(s.length:Int)=(n:Int):=Hi
      by_cases hk:k < n
      ·have hks:k < s.length:=by have:=HN.out;omega
       obtain⟨b,hb⟩:∃ b,b=s[k]:=⟨_,rfl⟩;have hbq:(s[k].toNat:Int)=(b.toNat:Int):=by rw [hb]
       have q0:(0:Int)<=(k:Int):=Cf
       have q1:(k:Int) < (s.length:Int):=Cf
       have q2:(k:Int) < (n:Int):=Cf
       obtain⟨iN,hiN,hz0,hz1,hz2⟩:=info_parts Tryz.infoU8;obtain⟨va,vc,rfl⟩:=Grd.ID HO2.out;have hown:=HO2.out;have hwz:=HB4.out.size;have hne2:=FQ8 hown HX2.out.1;have HNE:=hid hne2;clear hb hne2;go_wp2_with (at_builtin;refine wpList_append_lies _ rfl (.tmp 83) (.tmp 88) 40 rfl w.heap.size 5 iN _ 1 1 Tryz.underBs hiN hz0 hz1 hz2 rfl Cf (.slice va bs2.length vc) bs2.length (Lib.byteCells bs2) rfl (hown.alloc _) ⟨wr.heap.size,0,none⟩ 1 1 [.int .u8 (b.toNat:Int)] rfl rfl (Aq (cs:=#[.int .u8 (b.toNat:Int)]) (t:=5) (fr:=(0,0)) (heap_alloc_new wr _)) Eb Cf Cu Cf Cn (wr.heap.size+1) Cm ?_);intro gg cap w5 hown5 hgrow5 hat5 hlt5;have HB5:Hid (Below w.heap.size w w5):=hid ((HB4.out.alloc Cf _).grown hgrow5 Cn (fun k hk=>(hown.lt k hk).1));have HO5:=hid (PQ5 hown5 hbs2);have HX5:Hid (w5.heap[w2.heap.size]?=some (Obj.cells #[Value.int IntKind.i64 (L:Int),Value.string ⟨s.toArray⟩] 167 (0,0))/\w2.heap.size < w5.heap.size):=hid ⟨JQ5 hgrow5 (by rw [Ac _ _ _ HX2.out.2];exact HX2.out.1) (by simp;have:=HX2.out.2;omega) HNE.out,by have h1:=hgrow5.size;have h2:=HX2.out.2;simp at h1;omega⟩;clear hown5 hgrow5 hat5 hlt5 hown hwz hz0 hz1 hz2 hiN HO2 d0 d1 g0 g1;obtain⟨v3,hv3⟩:∃ v3,v3=Value.slice (some ⟨gg,0,none⟩) (bs2.length+1) cap:=⟨_,rfl⟩;rw [<- hv3] at HO5 ⊢;clear hv3;go_wp2_with fail;go_roundw
       case rel=>exact⟨k+1,Gv,Cf,HO5.out,HX5.out,HB5.out⟩
       case measure=>simp only [intOf];omega
      ·have hkn2:k=n:=by omega
       have q2:¬ (k:Int) < (n:Int):=Cf
       have q3:(i:Int)+(L:Int)=((i+L:Nat):Int):=Cf
       obtain⟨q,hq⟩:∃ q,q=i+L:=⟨_,rfl⟩;have HQ:=hid hq;rw [<- hq] at q3;have q4:q<=2097152:=Cf
       have hq2:2<=q:=by have:=HL0.out;omega
       have HG:=hid (show l.length<=q+g by have:=HL0.out;omega);have HE4:Hid (VQ4 l=rdN l 39 g 1 q):=hid (by rw [HE3.out,HIT.out.2,hq]);have hcv:=fun j=>cM HO2.out j
       clear hq;by_cases hql:q < l.length
       ·obtain⟨d,hd⟩:∃ d,d=l[q]:=⟨_,rfl⟩;have hdq:(l[q].toNat:Int)=(d.toNat:Int):=by rw [hd]
        obtain⟨g2,hg2,hR⟩:=qQ7 (m:=39) (it:=1) hql HG.out;rw [<- hd,<- HE4.out] at hR;have HR2:=hid hR;have r0:(0:Int)<=(q:Int):=Cf
        have r1:(q:Int) < (l.length:Int):=Cf
        have r2:((q:Int)==1)=false:=Cn
        clear hd hR;by_cases hd39:(d.toNat:Int)=39
        ·have hE:=HR2.out;rw [if_pos (show d=39 from (yQ4 d 39 Ch).1 hd39),if_pos (.inr rfl)] at hE;have HE5:=hid hE;clear hE;go_wp2_with fail;go_quiet (fail);go_wp2_with fail
         (try simp only [Exit.inBlock,Exit.then]);refine bodyPost_ret (RC rfl _ _ _) rfl ?_
         exact⟨sQ6 HE5.out Cf,Num.kL HB4.out _⟩
        ·have hE:=HR2.out;rw [if_neg (fun h:d=39=>hd39 ((yQ4 d 39 Ch).2 h)),if_pos ⟨rfl,rfl⟩] at hE;have HE5:=hid hE;clear hE hcv;go_wp2_with fail
         (try simp only [Exit.inBlock,Exit.then]);refine bodyPost_ret (RC rfl _ _ _) rfl ?_
         exact⟨KQ4 HE5.out rfl,HB4.out⟩
       ·have hE:=HE4.out;rw [wQ6 Cf] at hE;have HE5:=hid hE;have r1:¬ (q:Int) < (l.length:Int):=by omega
        clear hE hcv;go_wp2_with fail
        (try simp only [Exit.inBlock,Exit.then]);refine bodyPost_ret (RC rfl _ _ _) rfl ?_
        exact⟨KQ4 HE5.out rfl,HB4.out⟩
  ·have hE:=HRD.out;rw [wQ6 Cf] at hE;have HE2:=hid hE;have i1:¬ (i:Int) < (l.length:Int):=by omega
   clear hE;go_wp2_with fail
   (try simp only [Exit.inBlock,Exit.then]);refine bodyPost_ret (RC rfl _ _ _) rfl ?_
   exact⟨KQ4 HE2.out.symm rfl,HB.out⟩
end Ck
namespace Ck
open Go.RowKit
variable {w w':World}
theorem kQ9 (l:List UInt8) (hl:l.length<=1048576):Calls Tryz.prog 96 #[.string ⟨l.toArray⟩,.int .i64 0] w fun e w'=>lQ7 l e/\Below w.heap.size w w':=by
 by_cases h0:0 < l.length
 ·by_cases h1:l[0]=39
  ·exact AQ9 l hl h0 h1
  ·by_cases h2:l[0]=34
   ·exact oQ9 l hl h0 h2
   ·by_cases h3:l[0]=96
    ·exact hQ9 l hl h0 h3
    ·exact eQ8 l hl fun _=>⟨h1,h2,h3⟩
 ·exact eQ8 l hl fun h=>absurd h h0
def kQ7 (l:List UInt8):Bool:=decide (VQ4 l=some l.length)
theorem VQ6 (l:List UInt8) (hl:l.length<=1048576):Calls Tryz.prog 57 #[.string ⟨l.toArray⟩] w fun e w'=>(∃ (v:List UInt8) (er:Int),e=.returned (.tuple #[.string ⟨v.toArray⟩,.int .i64 er])/\(er==0)=kQ7 l)/\Below w.heap.size w w':=by
 go_enter Tryz.func57,Tryz.ntmps57;go_wp2_with fail;refine (kQ9 l hl).mono ?_;rintro e w2 ⟨⟨k,t,er,v,rfl,h⟩,hb⟩;rcases h with ⟨hn,he⟩|⟨x,hx,rfl,rfl⟩
 ·have hv:kQ7 l=false:=by unfold kQ7;rw [hn];rfl
  have HV:=hid hv;have he2:(er != 0)=true:=by unfold bne;rw [he];rfl
  clear hn hv;go_wp2_with fail;go_ret2;exact⟨⟨[],_,rfl,by rw [HV.out];rfl⟩,hb⟩
 ·have hv:kQ7 l=((x:Int)==(l.length:Int)):=by
   unfold kQ7;rw [hx,Bool.eq_iff_iff,decide_eq_true_iff,Option.some.injEq,beq_iff_eq];omega
  have HV:=hid hv;clear hv hx;cases hxl:((x:Int)==(l.length:Int)) with
  | true =>
   have hx2:((x:Int) != (l.length:Int))=false:=by unfold bne;rw [hxl];rfl
   have HV2:=hid (HV.out.trans hxl);clear hxl HV;go_wp2_with fail;go_ret2;exact⟨⟨v,_,rfl,by rw [HV2.out];rfl⟩,hb⟩
  | false =>
   have hx2:((x:Int) != (l.length:Int))=true:=by unfold bne;rw [hxl];rfl
   have HV2:=hid (HV.out.trans hxl);clear hxl HV;go_wp2_with fail;go_ret2;exact⟨⟨[],_,rfl,by rw [HV2.out];rfl⟩,hb⟩
end Ck
