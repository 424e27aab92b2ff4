import Derived.Test.YtjdllofmhglmiaaGreatDoorQAP
namespace Go.Proofs.YtjdllofmhglmiaaGreatDoor
open Lib(hid)
set_option linter.all false
set_option maxHeartbeats 40000000
set_option maxRecDepth 100000
namespace Ck
open Go.RowKit
variable {w w':World}
def XX1 (l:List UInt8) (k:Nat):Option Nat :=
 if h:k < l.length then
  (if l[k]=96 then (if Lib.indexByte (l.drop (k+1)) 96 < 0 then none else some ((Lib.indexByte (l.drop (k+1)) 96).toNat+(k+2)))
  else if l[k]=34∨l[k]=39 then rdN l l[k] l.length 0 (k+1) else none)
 else none
def KX5 (l:List UInt8) (k:Nat):Int × Int × Int:=match XX1 l k with
 | some x=>(if l[k]?=some 39 then 6 else 7,(x:Int),0)
 | none=>(0,0,if l[k]?=some 39∨l[k]?=some 34∨l[k]?=some 96 then 4 else 15)
def BgA (l:List UInt8) (k:Nat) (e:Ending):Prop:=∃ (v:List UInt8),e=.returned (.tuple #[.int .u8 (KX5 l k).1,i8 (KX5 l k).2.1,.string ⟨v.toArray⟩,i8 (KX5 l k).2.2])
theorem SX0 {l:List UInt8}{k:Nat}{er:Int} (h:XX1 l k=none) (he:er=if l[k]?=some 39∨l[k]?=some 34∨l[k]?=some 96 then 4 else 15):BgA l k (.returned (.tuple #[.int .u8 0,i8 0,.string ⟨#[]⟩,i8 er])):=⟨[],by unfold KX5;rw [h,he]⟩
theorem jX4 {l:List UInt8}{k x:Nat}{kd t:Int}{v:List UInt8} (h:XX1 l k=some x) (hk:kd=if l[k]?=some 39 then 6 else 7) (ht:t=(x:Int)):BgA l k (.returned (.tuple #[.int .u8 kd,i8 t,.string ⟨v.toArray⟩,i8 0])):=⟨v,by unfold KX5;rw [h,hk,ht]⟩
def Own (W w:World) (u:Value) (n:Nat):Prop:=∃ bs:List UInt8,w.ownsRow W.heap.size 5 1 u bs.length (Lib.byteCells bs)/\bs.length<=n
theorem PQ5 {W w3:World}{v3:Value}{bs:List UInt8}{c:UInt8}{n:Nat} (h:w3.ownsRow W.heap.size 5 1 v3 (bs.length+1) (Lib.byteCells bs++[.int .u8 (c.toNat:Int)])) (hn:bs.length<=n):Own W w3 v3 (n+1) :=
 ⟨bs++[c],by rw [V'];simpa [Lib.byteCells] using h,Cv⟩
theorem JX6 {l:List UInt8}{k i:Nat} (h1:k+1<=i) (hi:i < l.length) (he:l[i]=96) (hno:∀ j,k+1<=j->j < i->l[j]?≠some 96):Lib.indexByte (l.drop (k+1)) 96=((i - (k+1):Nat):Int):=by
 have hx:(l.drop (k+1))[i - (k+1)]?=some 96:=by rw [List.getElem?_drop,show k+1+(i - (k+1))=i by omega,O' hi,he]
 by_cases hn:Lib.indexByte (l.drop (k+1)) 96 < 0
 ·have:Lib.indexByte (l.drop (k+1)) 96=-1:=by have:=Lib.indexByte_ge (l.drop (k+1)) 96;omega
  exact absurd hx (Lib.indexByte_none this _)
 ·obtain⟨o,ho⟩:=Ad (Int.not_lt.1 hn);obtain⟨s1,s2⟩:=Lib.indexByte_some ho;rw [ho];rcases Nat.lt_trichotomy o (i - (k+1)) with h|h|h
  ·rw [List.getElem?_drop] at s1;exact absurd s1 (hno (k+1+o) Cs Cs)
  ·rw [h]
  ·exact absurd hx (s2 _ h)
theorem PX6 {l:List UInt8}{k:Nat} (hno:∀ j,k+1<=j->j < l.length->l[j]?≠some 96):Lib.indexByte (l.drop (k+1)) 96 < 0:=by
 rcases Int.lt_or_le (Lib.indexByte (l.drop (k+1)) 96) 0 with h|h
 ·exact h
 ·obtain⟨o,ho⟩:=Ad h;obtain⟨s1,s2⟩:=Lib.indexByte_some ho;rw [List.getElem?_drop] at s1;have hl:k+1+o < l.length:=(Al.1 s1).1;exact absurd s1 (hno _ Cs hl)
theorem tX9 (l:List UInt8) (k:Nat) (hl:l.length<=1048576) (hk:k < l.length) (h:l[k]≠39/\l[k]≠34/\l[k]≠96):Calls Tryz.prog 214 #[.string ⟨l.toArray⟩,i8 (k:Int)] w fun e w'=>BgA l k e/\Below w.heap.size w w':=by
 have hb:=N' w.heap.size w;obtain⟨c,hc⟩:∃ c,c=l[k]:=⟨_,rfl⟩;rw [<- hc] at h;obtain⟨h1,h2,h3⟩:=h;have hE:=hid (show XX1 l k=none by unfold XX1;rw [dif_pos hk,<- hc,Bc h3,Bc (by rintro (e|e);exact h2 e;exact h1 e)]);have hE2:=hid (show (15:Int)=if l[k]?=some 39∨l[k]?=some 34∨l[k]?=some 96 then 4 else 15 by rw [O' hk,<- hc,Bc (by simp only [Option.some.injEq];rintro (e|e|e);exact h1 e;exact h2 e;exact h3 e)]);have k39:¬ (c.toNat:Int)=39:=fun e=>h1 ((yQ4 c 39 Ct).1 e)
 have b39:((c.toNat:Int) != 39)=true:=by simpa using k39
 have k34:¬ (c.toNat:Int)=34:=fun e=>h2 ((yQ4 c 34 Ct).1 e)
 have b34:((c.toNat:Int) != 34)=true:=by simpa using k34
 have k96:¬ (c.toNat:Int)=96:=fun e=>h3 ((yQ4 c 96 Ct).1 e)
 have b96:((c.toNat:Int) != 96)=true:=by simpa using k96
 have hcq:(l[k].toNat:Int)=(c.toNat:Int):=by rw [hc]
 have hll:(k:Int) < (l.length:Int):=Cs
 have hl2:¬ (l.length:Int)<=(k:Int):=Cs
 have hk0:¬ (k:Int) < 0:=Cs
 have hk1:(0:Int)<=(k:Int):=Cs
 clear h1 h2 h3 hc
 go_in
 exact zcc
theorem XX8 (l:List UInt8) (k:Nat) (hl:l.length<=1048576) (h0:k < l.length) (hc:l[k]=96):Calls Tryz.prog 214 #[.string ⟨l.toArray⟩,i8 (k:Int)] w fun e w'=>BgA l k e/\Below w.heap.size w w':=by
 have HE:Hid (XX1 l k=if Lib.indexByte (l.drop (k+1)) 96 < 0 then none else some ((Lib.indexByte (l.drop (k+1)) 96).toNat+(k+2))):=hid (by unfold XX1;rw [dif_pos h0,Bb hc]);have HM:Hid (l[k]?=some 96):=hid Lj;have hcq:(l[k].toNat:Int)=96:=by rw [hc];rfl
 have hll:(k:Int) < (l.length:Int):=Cs
 have hl2:¬ (l.length:Int)<=(k:Int):=Cs
 have hk0:¬ (k:Int) < 0:=Cs
 have hk1:(0:Int)<=(k:Int):=Cs
 clear hc
 go_in
 go_wp2_with fail;clear hcq
 go_loopw [9,10] (fun u9 u10 wr=>∃ i:Nat,u10=i8 (i:Int)/\k+1<=i/\i<=l.length/\Own w wr u9 i/\(∀ j,k+1<=j->j < i->l[j]?≠some 96)/\Below w.heap.size w wr) (fun _ u _=>(l.length - intOf u).toNat)
 case atStart=>exact⟨k+1,Eh,Cs,Cs,⟨[],Av _ _ _ _,Cu⟩,fun j a b=>Cs,N' _ _⟩
 case round =>
  obtain⟨i,rfl,hi1,hil,⟨bs,hown,hbs⟩,hno,hb⟩:=hrel;have HO:=hid hown;have HNO:=hid hno;have HB:=hid hb;have hcv:=fun j=>cM hown j
  clear hown hno hb;by_cases hlt:i < l.length
  ·obtain⟨c,hc⟩:∃ c,c=l[i]:=⟨_,rfl⟩;have hcq:(l[i].toNat:Int)=(c.toNat:Int):=by rw [hc]
   have HC:=hid hc;have i0:(0:Int)<=(i:Int):=Cs
   have i1:(i:Int) < (l.length:Int):=Cs
   clear hc;by_cases h96:(c.toNat:Int)=96
   ·have hx:=JX6 hi1 hlt (by rw [<- HC.out];exact (yQ4 c 96 Ct).1 h96) HNO.out;have hE:=HE.out;rw [hx,Bc Cs] at hE;have HE2:=hid hE;clear hx hE;exact zbv
   ·have hno2:∀ j,k+1<=j->j < i+1->l[j]?≠some 96:=by
     intro j a b;by_cases hj:j=i
     ·subst hj;rw [O' hlt,<- HC.out];intro e;exact h96 ((yQ4 c 96 Ct).2 (Option.some.inj e))
     ·exact HNO.out j a Cs
    have HNO2:=hid hno2;have b96:((c.toNat:Int)==96)=false:=by simpa using h96
    clear hno2 h96;by_cases h13:(c.toNat:Int)=13
    ·go_wp2_with fail;go_roundw
     case rel=>exact⟨i+1,Eh,Cs,Cs,⟨bs,HO.out,Cs⟩,HNO2.out,HB.out⟩
     case measure=>simp only [intOf];omega
    ·have b13:((c.toNat:Int) != 13)=true:=by simpa using h13
     obtain⟨iN,hiN,hz0,hz1,hz2⟩:=info_parts Tryz.infoU8;have hown:=HO.out;have hwz:=HB.out.size;clear hcv;go_wp2_with (at_builtin;refine wpList_append_lies _ rfl (.tmp 61) (.tmp 65) 32 rfl w.heap.size 5 iN _ 1 1 Tryz.underBs hiN hz0 hz1 hz2 rfl Cs u9 bs.length (Lib.byteCells bs) rfl (hown.alloc _) (y8 wr.heap.size 0) 1 1 [.int .u8 (c.toNat:Int)] rfl rfl (At (cs:=#[.int .u8 (c.toNat:Int)]) (t:=5) (fr:=(0,0)) (B8 wr _)) Dq Cs Da Cs Cv (wr.heap.size+1) Cu ?_);intro gg cap w3 hown3 hgrow3 hat3 hlt3;have HB3:Hid (Below w.heap.size w w3):=hid ((HB.out.alloc Cs _).grown hgrow3 Cv (fun k hk=>(hown.lt k hk).1));have HO3:=hid (PQ5 hown3 hbs);clear hown3 hgrow3 hat3 hlt3 hown hwz hz0 hz1 hz2 hiN HO;obtain⟨v3,hv3⟩:∃ v3,v3=Value.slice (some ⟨gg,0,none⟩) (bs.length+1) cap:=⟨_,rfl⟩;rw [<- hv3] at HO3 ⊢;clear hv3;go_wp2_with fail;go_roundw
     case rel=>exact⟨i+1,Eh,Cs,Cs,HO3.out,HNO2.out,HB3.out⟩
     case measure=>simp only [intOf];omega
  ·have hE:=HE.out;have hie:i=l.length:=by omega
   rw [Bb (PX6 (by rw [<- hie];exact HNO.out))] at hE;have HE2:=hid hE;have i1:¬ (i:Int) < (l.length:Int):=Cs
   clear hE;exact zb6
end Ck
namespace Ck
open Go.RowKit
variable {w w':World}
theorem FQ8 {w:World}{base X:Nat}{v:Value}{n:Nat}{xs:List Value}{cs:Array Value} (h:w.ownsRow base 5 1 v n xs) (hX:w.heap[X]?=some (.cells cs 167 (0,0))):v.ownBlock≠some X:=by
 rcases h.2 with ⟨e1,e2⟩|⟨g,cap,cur,e1,e2,e3,e4,e5,e6,e7⟩
 ·rw [e1];simp [Value.ownBlock]
 ·rw [e1];simp only [Value.ownBlock];intro e;cases e;rw [hX] at e3;cases e3
theorem JQ5 {w w3:World}{X:Nat}{o:Obj}{row:Option Nat} (hg:w.grownBy w3 row) (h:w.heap[X]?=some o) (hlt:X < w.heap.size) (hne:row≠some X):w3.heap[X]?=some o:=by
 rw [<- h];exact hg.block X hlt (fun e=>hne e.symm)
theorem qQ7 {l:List UInt8}{m:UInt8}{f it i:Nat} (hlt:i < l.length) (hf:l.length<=i+f):∃ g,f=g+1/\rdN l m f it i=if l[i]=m then (if m=34∨it=1 then some (i+1) else none) else if m=39/\it=1 then none else if itN l m i=0 then none else rdN l m g (it+1) (i+itN l m i):=by
 obtain⟨g,rfl⟩:∃ g,f=g+1:=⟨f - 1,Cs⟩;refine⟨g,rfl,?_⟩
 conv=>lhs;unfold rdN
 rw [dif_pos hlt]
theorem wQ6 {l:List UInt8}{m:UInt8}{f it i:Nat} (h:l.length<=i):rdN l m f it i=none:=by
 cases f with
 | zero=>rfl
 | succ f=>unfold rdN;rw [dif_neg Cs]
theorem jQ8 (l:List UInt8) (m:UInt8) (i:Nat):itN l m i<=10:=by
 unfold itN;split
 ·rename_i h;split
  ·unfold xQ5
   repeat' split
   all_goals omega
  ·split
   ·omega
   ·split
    ·omega
    ·have:=DQ6 h;omega
 ·omega
theorem fX9 (l:List UInt8) (k:Nat) (hl:l.length<=1048576) (h0:k < l.length) (hc:l[k]=34):Calls Tryz.prog 214 #[.string ⟨l.toArray⟩,i8 (k:Int)] w fun e w'=>BgA l k e/\Below w.heap.size w w':=by
 have HE:Hid (XX1 l k=rdN l 34 l.length 0 (k+1)):=hid (by unfold XX1;rw [dif_pos h0,Bc (by rw [hc];decide),Bb (.inl hc),hc]);have HM:Hid (l[k]?=some 34):=hid Lj;have hcq:(l[k].toNat:Int)=34:=by rw [hc];rfl
 have hll:(k:Int) < (l.length:Int):=Cs
 have hl2:¬ (l.length:Int)<=(k:Int):=Cs
 have hk0:¬ (k:Int) < 0:=Cs
 have hk1:(0:Int)<=(k:Int):=Cs
 clear hc
 go_in
 go_wp2_with fail;clear hcq
 go_loopw [9,10] (fun u9 u10 wr=>∃ i f it:Nat,u10=i8 (i:Int)/\k+1<=i/\i<=l.length+10/\Own w wr u9 (4*i)/\l.length<=i+f/\rdN l 34 f it i=XX1 l k/\Below w.heap.size w wr) (fun _ u _=>(l.length - intOf u).toNat)
 case atStart=>exact⟨k+1,l.length,0,Eh,Cs,Cs,⟨[],Av _ _ _ _,Cu⟩,Cs,HE.out.symm,N' _ _⟩
 case round =>
  obtain⟨i,f,it,rfl,hi1,hil,⟨bs,hown,hbs⟩,hf,hrd,hb⟩:=hrel;have HO:=hid hown;have HRD:=hid hrd;have HB:=hid hb;have hcv:=fun j=>cM hown j
  clear hown hrd hb;by_cases hlt:i < l.length
  ·obtain⟨c,hc⟩:∃ c,c=l[i]:=⟨_,rfl⟩;have hcq:(l[i].toNat:Int)=(c.toNat:Int):=by rw [hc]
   obtain⟨g,hg,hR⟩:=qQ7 (m:=34) (it:=it) hlt hf;rw [<- hc,HRD.out] at hR;have HR:=hid hR;have i0:(0:Int)<=(i:Int):=Cs
   have i1:(i:Int) < (l.length:Int):=Cs
   clear hc hR;by_cases h34:(c.toNat:Int)=34
   ·have hE:=HR.out;rw [Bb (show c=34 from (yQ4 c 34 Ct).1 h34),Bb (.inl rfl)] at hE;have HE2:=hid hE;clear hE;exact zbv
   ·have hE:=HR.out;rw [Bc (fun h:c=34=>h34 ((yQ4 c 34 Ct).2 h)),Bc Cu] at hE;have HE2:=hid hE;have hbd:=jQ8 l 34 i;clear hE hcv HR;go_wp2_with fail;refine (gQ6 l 34 i hl hlt).mono ?_;rintro e w2 ⟨⟨s,rfl,hs4⟩,hb2⟩;obtain⟨L,hL⟩:∃ L,L=itN l 34 i:=⟨_,rfl⟩;rw [<- hL] at HE2 hbd ⊢;clear hL;have HB2:=hid hb2;clear hb2;by_cases hL0:(L:Int)=0
    ·exact zbk
    ·have hE:=HE2.out;rw [Bc Cs] at hE;have HE3:=hid hE;clear hE HE2;go_upto_region 14 with fail;have hX:=B8 w2 (Obj.cells #[i8 (L:Int),Value.string ⟨s.toArray⟩] 167);have hB3:=(dA HB.out HB2.out).alloc (dA HB.out HB2.out).size (Obj.cells #[i8 (L:Int),Value.string ⟨s.toArray⟩] 167);have hO3:=(LD HO.out HB2.out).alloc (Obj.cells #[i8 (L:Int),Value.string ⟨s.toArray⟩] 167);have hz:w2.heap.size < (w2.alloc (Obj.cells #[i8 (L:Int),Value.string ⟨s.toArray⟩] 167)).heap.size:=by simp
     generalize w2.alloc (Obj.cells #[i8 (L:Int),Value.string ⟨s.toArray⟩] 167)=w3 at *;have HX:=hid (Az hX hz);have HB3:=hid hB3;have HO3:=hid hO3;obtain⟨n,hn⟩:∃ n,n=s.length:=⟨_,rfl⟩;have HN:=hid hn;have hn4:n<=4:=Cs
     have HL0:=hid hL0;clear hX hB3 hO3 hz hn hs4 HO HB2;go_wp2_with fail;clear hL0 h34 i0 i1 hcq;generalize ((L:Int)==0)=z1
     go_loopw [9,12] (fun u9 u12 wq=>∃ kk:Nat,u12=i8 (kk:Int)/\kk<=n/\Own w wq u9 (4*i+kk)/\(wq.heap[w2.heap.size]?=some (Obj.cells #[i8 (L:Int),Value.string ⟨s.toArray⟩] 167 (0,0))/\w2.heap.size < wq.heap.size)/\Below w.heap.size w wq) (fun _ u _=>(n - intOf u).toNat)
     case atStart=>exact⟨0,rfl,Cs,⟨bs,HO3.out,Cs⟩,HX.out,HB3.out⟩
     case round =>
      obtain⟨kk,rfl,hkn,⟨bs2,hown2,hbs2⟩,⟨hX2,hz2⟩,hb4⟩:=hrel;have HO2:=hid hown2;have HX2:=hid (Az hX2 hz2);have HB4:=hid hb4;obtain⟨d0,d1,g0,g1⟩:=tA hX2;clear hown2 hX2 hz2 hb4;have hsn:(s.length:Int)=(n:Int):=Dz
      by_cases hk:kk < n
      ·exact zaf
      ·have hkn2:kk=n:=by omega
       have q2:¬ (kk:Int) < (n:Int):=Cs
       have q3:(i:Int)+(L:Int)=((i+L:Nat):Int):=Cs
       obtain⟨q,hq⟩:∃ q,q=i+L:=⟨_,rfl⟩;have HQ:=hid hq;rw [<- hq] at q3;have q4:q<=2097152:=Cs
       clear hq;go_wp2_with fail;go_roundw
       case rel=>exact⟨q,g,it+1,rfl,Kv,Kv,⟨bs2,HO2.out,Ka⟩,Ka,by rw [HQ.out];exact HE3.out.symm,HB4.out⟩
       case measure=>simp only [intOf];have:=HQ.out;have:=HL0.out;omega
  ·exact zbl
end Ck
namespace Ck
open Go.RowKit
variable {w w':World}
theorem uX9 (l:List UInt8) (k:Nat) (hl:l.length<=1048576) (h0:k < l.length) (hc:l[k]=39):Calls Tryz.prog 214 #[.string ⟨l.toArray⟩,i8 (k:Int)] w fun e w'=>BgA l k e/\Below w.heap.size w w':=by
 have HE:Hid (XX1 l k=rdN l 39 l.length 0 (k+1)):=hid (by unfold XX1;rw [dif_pos h0,Bc (by rw [hc];decide),Bb (.inr hc),hc]);have HM:Hid (l[k]?=some 39):=hid Lj;have hcq:(l[k].toNat:Int)=39:=by rw [hc];rfl
 have hll:(k:Int) < (l.length:Int):=Cs
 have hl2:¬ (l.length:Int)<=(k:Int):=Cs
 have hk0:¬ (k:Int) < 0:=Cs
 have hk1:(0:Int)<=(k:Int):=Cs
 clear hc
 go_in
 go_wp2_with fail;clear hcq
 go_loopw [9,10] (fun u9 u10 wr=>∃ i f it:Nat,u10=i8 (i:Int)/\i=k+1/\it=0/\Own w wr u9 (4*i)/\l.length<=i+f/\rdN l 39 f it i=XX1 l k/\Below w.heap.size w wr) (fun _ u _=>(l.length - intOf u).toNat)
 case atStart=>exact⟨k+1,l.length,0,Eh,rfl,rfl,⟨[],Av _ _ _ _,Cu⟩,Cs,HE.out.symm,N' _ _⟩
 case round =>
  obtain⟨i,f,it,rfl,hie,hit,⟨bs,hown,hbs⟩,hf,hrd,hb⟩:=hrel;have hil:i<=l.length+10:=Cs
  have HIT:=hid (Az hie hit);have hi1:k+1<=i:=Cs
  clear hit hie;have HO:=hid hown;have HRD:=hid hrd;have HB:=hid hb;have hcv:=fun j=>cM hown j
  clear hown hrd hb;by_cases hlt:i < l.length
  ·obtain⟨c,hc⟩:∃ c,c=l[i]:=⟨_,rfl⟩;have hcq:(l[i].toNat:Int)=(c.toNat:Int):=by rw [hc]
   obtain⟨g,hg,hR⟩:=qQ7 (m:=39) (it:=it) hlt hf;rw [<- hc,HRD.out] at hR;have HR:=hid hR;have i0:(0:Int)<=(i:Int):=Cs
   have i1:(i:Int) < (l.length:Int):=Cs
   clear hc hR;by_cases h39:(c.toNat:Int)=39
   ·have hE:=HR.out;rw [Bb (show c=39 from (yQ4 c 39 Ct).1 h39),Bc (by rw [HIT.out.2];decide)] at hE;have HE2:=hid hE;clear hE;have hi1':((i:Int)==(k:Int)+1)=true:=by have:=HIT.out.1;simp;omega
    exact zb6
   ·have hE:=HR.out;rw [Bc (fun h:c=39=>h39 ((yQ4 c 39 Ct).2 h)),Bc (by rw [HIT.out.2];decide)] at hE;have HE2:=hid hE;have hbd:=jQ8 l 39 i;clear hE hcv HR;go_wp2_with fail;refine (gQ6 l 39 i hl hlt).mono ?_;rintro e w2 ⟨⟨s,rfl,hs4⟩,hb2⟩;obtain⟨L,hL⟩:∃ L,L=itN l 39 i:=⟨_,rfl⟩;rw [<- hL] at HE2 hbd ⊢;clear hL;have HB2:=hid hb2;clear hb2;by_cases hL0:(L:Int)=0
    ·exact zbk
    ·have hE:=HE2.out;rw [Bc Cs] at hE;have HE3:=hid hE;clear hE HE2;go_upto_region 14 with fail;have hX:=B8 w2 (Obj.cells #[i8 (L:Int),Value.string ⟨s.toArray⟩] 167);have hB3:=(dA HB.out HB2.out).alloc (dA HB.out HB2.out).size (Obj.cells #[i8 (L:Int),Value.string ⟨s.toArray⟩] 167);have hO3:=(LD HO.out HB2.out).alloc (Obj.cells #[i8 (L:Int),Value.string ⟨s.toArray⟩] 167);have hz:w2.heap.size < (w2.alloc (Obj.cells #[i8 (L:Int),Value.string ⟨s.toArray⟩] 167)).heap.size:=by simp
     generalize w2.alloc (Obj.cells #[i8 (L:Int),Value.string ⟨s.toArray⟩] 167)=w3 at *;have HX:=hid (Az hX hz);have HB3:=hid hB3;have HO3:=hid hO3;obtain⟨n,hn⟩:∃ n,n=s.length:=⟨_,rfl⟩;have HN:=hid hn;have hn4:n<=4:=Cs
     have HL0:=hid hL0;clear hX hB3 hO3 hz hn hs4 HO HB2;go_wp2_with fail;clear hL0 h39 i0 i1 hcq;generalize ((L:Int)==0)=z1
     go_loopw [9,12] (fun u9 u12 wq=>∃ kk:Nat,u12=i8 (kk:Int)/\kk<=n/\Own w wq u9 (4*i+kk)/\(wq.heap[w2.heap.size]?=some (Obj.cells #[i8 (L:Int),Value.string ⟨s.toArray⟩] 167 (0,0))/\w2.heap.size < wq.heap.size)/\Below w.heap.size w wq) (fun _ u _=>(n - intOf u).toNat)
     case atStart=>exact⟨0,rfl,Cs,⟨bs,HO3.out,Cs⟩,HX.out,HB3.out⟩
     case round =>
      obtain⟨kk,rfl,hkn,⟨bs2,hown2,hbs2⟩,⟨hX2,hz2⟩,hb4⟩:=hrel;have HO2:=hid hown2;have HX2:=hid (Az hX2 hz2);have HB4:=hid hb4;obtain⟨d0,d1,g0,g1⟩:=tA hX2;clear hown2 hX2 hz2 hb4;have hsn:(s.length:Int)=(n:Int):=Dz
      by_cases hk:kk < n
      ·exact zaf
      ·have hkn2:kk=n:=by omega
       have q2:¬ (kk:Int) < (n:Int):=Cs
       have q3:(i:Int)+(L:Int)=((i+L:Nat):Int):=Cs
       obtain⟨q,hq⟩:∃ q,q=i+L:=⟨_,rfl⟩;have HQ:=hid hq;rw [<- hq] at q3;have q4:q<=2097152:=Cs
       have hq2:k+2<=q:=Kj
       have HG:=hid (show l.length<=q+g by have:=HL0.out;omega);have HE4:Hid (XX1 l k=rdN l 39 g 1 q):=hid (by rw [HE3.out,HIT.out.2,hq]);have hcv:=fun j=>cM HO2.out j
       clear hq;by_cases hql:q < l.length
       ·obtain⟨d,hd⟩:∃ d,d=l[q]:=⟨_,rfl⟩;have hdq:(l[q].toNat:Int)=(d.toNat:Int):=by rw [hd]
        obtain⟨g2,hg2,hR⟩:=qQ7 (m:=39) (it:=1) hql HG.out;rw [<- hd,<- HE4.out] at hR;have HR2:=hid hR;have r0:(0:Int)<=(q:Int):=Cs
        have r1:(q:Int) < (l.length:Int):=Cs
        have r2:((q:Int)==(k:Int)+1)=false:=Cv
        clear hd hR;by_cases hd39:(d.toNat:Int)=39
        ·have hE:=HR2.out;rw [Bb (show d=39 from (yQ4 d 39 Ct).1 hd39),Bb (.inr rfl)] at hE;have HE5:=hid hE;clear hE;go_wp2_with fail;go_quiet (fail);go_wp2_with fail
         (try simp only [Exit.inBlock,Exit.then]);refine Ca (RC rfl _ _ _) rfl ?_
         exact⟨jX4 HE5.out Gu Cs,Num.kL HB4.out _⟩
        ·have hE:=HR2.out;rw [Bc (fun h:d=39=>hd39 ((yQ4 d 39 Ct).2 h)),Bb ⟨rfl,rfl⟩] at hE;have HE5:=hid hE;exact zb5
       ·have hE:=HE4.out;rw [wQ6 Cs] at hE;have HE5:=hid hE;have r1:¬ (q:Int) < (l.length:Int):=by omega
        exact zb5
  ·exact zbl
end Ck
namespace Ck
open Go.RowKit
variable {w w':World}
theorem cX9 (l:List UInt8) (k:Nat) (hk:l.length<=k):Calls Tryz.prog 214 #[.string ⟨l.toArray⟩,i8 (k:Int)] w fun e w'=>BgA l k e/\Below w.heap.size w w':=by
 have hb:=N' w.heap.size w;have hE:=hid (show XX1 l k=none by unfold XX1;rw [dif_neg Cs]);have hE2:=hid (show (15:Int)=if l[k]?=some 39∨l[k]?=some 34∨l[k]?=some 96 then 4 else 15 by rw [As hk];rfl);have hl2:(l.length:Int)<=(k:Int):=Cs
 have hl3:¬ (k:Int) < (l.length:Int):=Cs
 have hk0:¬ (k:Int) < 0:=Cs
 go_in
 exact zcc
theorem xX9 (l:List UInt8) (k:Nat) (hl:l.length<=1048576):Calls Tryz.prog 214 #[.string ⟨l.toArray⟩,i8 (k:Int)] w fun e w'=>BgA l k e/\Below w.heap.size w w':=by
 by_cases h0:k < l.length
 ·by_cases h1:l[k]=39
  ·exact uX9 l k hl h0 h1
  ·by_cases h2:l[k]=34
   ·exact fX9 l k hl h0 h2
   ·by_cases h3:l[k]=96
    ·exact XX8 l k hl h0 h3
    ·exact tX9 l k hl h0 ⟨h1,h2,h3⟩
 ·exact cX9 l k Cs
theorem fZ0 (l:List UInt8) (k:Nat):KX5 l k=((YA l (k:Int)).k,(YA l (k:Int)).tx,(YA l (k:Int)).e):=by
 unfold KX5 XX1 YA;by_cases h:k < l.length
 ·rw [dif_pos (show (0:Int)<=(k:Int)/\(k:Int) < l.length by omega),dif_pos h,O' h];have h0:l[(k:Int).toNat]' Dp=l[k]:=rfl;simp only [h0,Ai,Option.some.injEq];by_cases h1:l[k]=39∨l[k]=34∨l[k]=96
  ·rw [Bc (show ¬ Lib.indexByte ([39,34,96]:List UInt8) l[k] < 0 by rw [zQ7];exact fun hn=>hn h1)];by_cases h2:l[k]=96
   ·rw [Bb h2,Bb h2];by_cases h3:Lib.indexByte (l.drop (k+1)) 96 < 0
    ·rw [Bb h3,Bb h3];simp only [Bb h1]
    ·rw [Bc h3,Bc h3]
     dsimp only
     rw [Bc (by rw [h2];decide)]
     congr 2
     omega
   ·rw [Bc h2,Bc h2];have hm:l[k]=34∨l[k]=39:=by rcases h1 with h|h|h;exact .inr h;exact .inl h;exact absurd h h2
    rw [Bb hm];obtain⟨r1,r2⟩:=mQ9 (l:=l) (m:=l[k]) hm l.length 0 (k+1) [];rw [r1];cases hr:rdN l l[k] l.length 0 (k+1) with
    | none=>simp [h1]
    | some e =>
     have:=r2 e hr;simp only [Option.isSome_some,Be,this];rcases hm with hm|hm
     ·rw [Bc (by rw [hm];decide),Bb hm]
     ·rw [Bb hm,Bc (by rw [hm];decide)]
  ·rw [Bb (show Lib.indexByte ([39,34,96]:List UInt8) l[k] < 0 by rw [zQ7];exact h1),Bc (fun e=>h1 (.inr (.inr e))),Bc (by rintro (e|e);exact h1 (.inr (.inl e));exact h1 (.inl e))];simp only [Bc h1]
 ·rw [dif_neg h,dif_neg (show ¬ ((0:Int)<=(k:Int)/\(k:Int) < l.length) by omega),As Cs]
  rfl
end Ck
