import Derived.Lib.MapLaws
import Derived.Test.YtjdllofmhglmiaaGreatDoorQAI
namespace Go.Proofs.YtjdllofmhglmiaaGreatDoor
open Lib(hid)
set_option linter.all false
set_option maxHeartbeats 40000000
set_option maxRecDepth 100000
namespace Ck
open Go.RowKit
def EQ4 (r:Int):Bool:=decide (0<=r)&&decide (r<=1114111)&&(decide (r < 55296)||decide (57343 < r))
theorem oQ6 {r:Int} (h:0<=r/\r<=1114111/\(r < 55296∨57343 < r)):¬ EQ4 r=false:=by unfold EQ4;simp;omega
def by8 (z:Int):UInt8:=z.toNat.toUInt8
def fmR (v:Int):List UInt8 :=
 if EQ4 v=false then [] else if v < 128 then [by8 v] else if v < 2048 then [by8 (192+v / 64),by8 (128+v % 64)]
 else if v < 65536 then [by8 (224+v / 4096),by8 (128+v / 64 % 64),by8 (128+v % 64)]
 else [by8 (240+v / 262144),by8 (128+v / 4096 % 64),by8 (128+v / 64 % 64),by8 (128+v % 64)]
def gb (l:List UInt8) (i:Nat):Int:=((l.getD i 0).toNat:Int)
def vN (l:List UInt8) (n:Nat):Int:=match n with
 | 1=>gb l 0
 | 2=>64*(gb l 0 % 32)+gb l 1 % 64
 | 3=>64*(64*(gb l 0 % 16)+gb l 1 % 64)+gb l 2 % 64
 | _=>64*(64*(64*(gb l 0 % 8)+gb l 1 % 64)+gb l 2 % 64)+gb l 3 % 64
theorem AQ4 {z:Int}{x:UInt8} (h0:0<=z) (h1:z < 256):by8 z=x↔z=(x.toNat:Int):=by
 have hx:=x.toNat_lt;unfold by8;constructor
 ·intro h;have:=congrArg UInt8.toNat h;simp at this;omega
 ·intro h;exact Lib.toByte z x h
theorem xQ7 {l:List UInt8} (h:l≠[]):dec l=Lib.decodeN l.length (l.getD 0 0).toNat (l.getD 1 0).toNat (l.getD 2 0).toNat (l.getD 3 0).toNat:=by
 rw [<- Lib.decodeL_N];unfold dec Lib.decodeGo Lib.decodeL;rw [Bc Ey]
theorem QQ8 {l:List UInt8}{n:Nat} (h0:1<=n) (h4:n<=4) (hn:n<=l.length) (h:fmR (vN l n)=l.take n):dec l=((vN l n).toNat,n)/\EQ4 (vN l n)=true:=by
 have hne:l≠[]:=by intro e;subst e;simp at hn;omega
 rw [xQ7 hne];have k0:=(l.getD 0 0).toNat_lt;have k1:=(l.getD 1 0).toNat_lt;have k2:=(l.getD 2 0).toNat_lt;have k3:=(l.getD 3 0).toNat_lt;have hm:EQ4 (vN l n)=true:=by
  cases hm:EQ4 (vN l n) with
  | true=>rfl
  | false =>
   unfold fmR at h;rw [Bb hm] at h;have:=congrArg List.length h;simp at this;omega
 refine⟨?_,hm⟩;have hv:0<=vN l n/\vN l n<=1114111/\(vN l n < 55296∨57343 < vN l n):=by simpa [EQ4,and_assoc] using hm
 unfold fmR at h;rw [Bc Ky] at h;rcases (by omega:n=1∨n=2∨n=3∨n=4) with rfl|rfl|rfl|rfl
 ·rw [Lib.takeA l hn] at h;simp only [vN,gb] at h hv ⊢;split at h
  ·unfold Lib.decodeN;rw [Bb Cs];simp
  ·repeat' split at h
   all_goals simp at h
 ·rw [Lib.takeB l hn] at h;simp only [vN,gb] at h hv ⊢;split at h
  ·simp at h
  ·split at h
   ·simp only [List.cons.injEq,and_true] at h;have a:=(AQ4 Cs Cs).1 h.1;have b:=(AQ4 Cs Cs).1 h.2;unfold Lib.decodeN;rw [Bc Cs,Bb Cs,Bb Cs];exact zd7
   ·repeat' split at h
    all_goals simp at h
 ·rw [Lib.takeC l hn] at h;simp only [vN,gb] at h hv ⊢;split at h
  ·simp at h
  ·split at h
   ·simp at h
   ·split at h
    ·simp only [List.cons.injEq,and_true] at h;have a:=(AQ4 Cs Cs).1 h.1;have b:=(AQ4 Cs Cs).1 h.2.1;have c:=(AQ4 Cs Cs).1 h.2.2;unfold Lib.decodeN;rw [Bc Cs,Bc Cs,Bb Cs,Bb Cs];exact zd7
    ·simp at h
 ·rw [Lib.takeD l hn] at h;simp only [vN,gb] at h hv ⊢;split at h
  ·simp at h
  ·split at h
   ·simp at h
   ·split at h
    ·simp at h
    ·simp only [List.cons.injEq,and_true] at h;have a:=(AQ4 Cs Cs).1 h.1;have b:=(AQ4 Cs Cs).1 h.2.1;have c:=(AQ4 Cs Cs).1 h.2.2.1;have d:=(AQ4 Cs Cs).1 h.2.2.2;unfold Lib.decodeN;rw [Bc Cs,Bc Cs,Bc Cs,Bb Cs,Bb Cs];exact zd7
theorem uQ8 {l:List UInt8} (hne:l≠[]) (h:∀ n,1<=n->n<=4->n<=l.length->fmR (vN l n)≠l.take n):dec l=(65533,1):=by
 have hl:0 < l.length:=List.length_pos_iff.2 hne;rw [xQ7 hne];have k0:=(l.getD 0 0).toNat_lt;have k1:=(l.getD 1 0).toNat_lt;have k2:=(l.getD 2 0).toNat_lt;have k3:=(l.getD 3 0).toNat_lt;rcases Lib.decodeN_shape l.length (l.getD 0 0).toNat (l.getD 1 0).toNat (l.getD 2 0).toNat (l.getD 3 0).toNat with ⟨c,e⟩|⟨c1,c2,c3,cv,e⟩|⟨c1,c2,c3,c4,cv,cs,e⟩|⟨c1,c2,c3,c4,c5,cv,cw,e⟩|e
 ·refine absurd ?_ (h 1 Cs Cs hl);rw [Lib.takeA l hl];simp only [vN,gb,fmR];rw [Bc (oQ6 Cs),Bb Cs,(AQ4 Cs Cs).2 rfl]
 ·refine absurd ?_ (h 2 Cs Cs c2);rw [Lib.takeB l c2];simp only [vN,gb,fmR];rw [Bc (oQ6 Cs),Bc Cs,Bb Cs,(AQ4 (x:=l.getD 0 0) Cs Cs).2 Cs,(AQ4 (x:=l.getD 1 0) Cs Cs).2 Cs]
 ·refine absurd ?_ (h 3 Cs Cs c2);rw [Lib.takeC l c2];simp only [vN,gb,fmR];rw [Bc (oQ6 Cs),Bc Cs,Bc Cs,Bb Cs,(AQ4 (x:=l.getD 0 0) Cs Cs).2 Cs,(AQ4 (x:=l.getD 1 0) Cs Cs).2 Cs,(AQ4 (x:=l.getD 2 0) Cs Cs).2 Cs]
 ·refine absurd ?_ (h 4 Cs Cs c2);rw [Lib.takeD l c2];simp only [vN,gb,fmR];rw [Bc (oQ6 Cs),Bc Cs,Bc Cs,Bc Cs,(AQ4 (x:=l.getD 0 0) Cs Cs).2 Cs,(AQ4 (x:=l.getD 1 0) Cs Cs).2 Cs,(AQ4 (x:=l.getD 2 0) Cs Cs).2 Cs,(AQ4 (x:=l.getD 3 0) Cs Cs).2 Cs]
 ·exact e
end Ck
namespace Ck
open Go.RowKit
variable {w:World}
theorem tQ5 (r:Int):Calls Tryz.prog 245 #[i8 r] w fun e w'=>e=.returned (.bool (EQ4 r))/\w'=w:=by
 unfold EQ4
 go_in
 go_wp2
 all_goals (go_ret;exact⟨Num.TG Ei,rfl⟩)
theorem UQ8 {z:Int} (h0:0<=z) (h1:z < 256):((by8 z).toNat:Int)=z:=((AQ4 h0 h1).1 rfl).symm
theorem jQ5 (w:World) (zs:List Int) (h:∀ z∈zs,0<=z/\z < 256) (n:Nat) (hn:zs.length=n) (hm:n<=1000) :
  (convert 32 9 (.slice (some (y8 w.heap.size 0)) n n)).run Tryz.prog (w.alloc (.cells (zs.map fun z=>Value.int .u8 z).toArray 5))=.ok (.string ⟨(zs.map by8).toArray⟩) (w.alloc (.cells (zs.map fun z=>Value.int .u8 z).toArray 5)):=by
 have e:Lib.byteCells (zs.map by8)=zs.map fun z=>Value.int .u8 z:=by
  unfold Lib.byteCells;rw [List.map_map];refine List.map_congr_left fun z hz=>?_
  simp only [Function.comp_apply];rw [UQ8 (h z hz).1 (h z hz).2]
 have h1:=World.ownsRow_lit (base:=w.heap.size) (e:=5) (size:=1) w (zs.map fun z=>Value.int .u8 z).toArray n (C' _) Da (by simp [hn]);have h2:(w.alloc (.cells (zs.map fun z=>Value.int .u8 z).toArray 5)).ownsRow w.heap.size 5 1 (.slice (some (y8 w.heap.size 0)) n n) (zs.map by8).length (Lib.byteCells (zs.map by8)):=by
  rw [e,List.length_map,hn];simpa using h1
 exact cM h2 0
theorem cQ5 (v:Int):Calls Tryz.prog 207 #[i8 v] w fun e w'=>e=.returned (.string ⟨(fmR v).toArray⟩)/\Below w.heap.size w w':=by
 cases hm:EQ4 v with
 | false =>
  have hf:fmR v=[]:=by unfold fmR;rw [Bb hm]
  rw [hf]
  go_in
  go_wp2_with fail;refine (tQ5 v).mono ?_;rintro e w1 ⟨rfl,rfl⟩;rw [hm];exact za8
 | true =>
  have hv:0<=v/\v<=1114111/\(v < 55296∨57343 < v):=by simpa [EQ4,and_assoc] using hm
  have hf:fmR v=(if v < 128 then [by8 v] else if v < 2048 then [by8 (192+v / 64),by8 (128+v % 64)] else if v < 65536 then [by8 (224+v / 4096),by8 (128+v / 64 % 64),by8 (128+v % 64)] else [by8 (240+v / 262144),by8 (128+v / 4096 % 64),by8 (128+v / 64 % 64),by8 (128+v % 64)]):=by unfold fmR;rw [Bc Ky]
  rw [hf]
  go_in
  go_wp2_with fail;refine (tQ5 v).mono ?_;rintro e w1 ⟨rfl,rfl⟩;rw [hm];have hb:=Af;have c1:=fun h=>jQ5 w1 [v] h 1 rfl Cs
  have c2:=fun h=>jQ5 w1 [192+v / 64,128+v % 64] h 2 rfl Cs
  have c3:=fun h=>jQ5 w1 [224+v / 4096,128+v / 64 % 64,128+v % 64] h 3 rfl Cs
  have c4:=fun h=>jQ5 w1 [240+v / 262144,128+v / 4096 % 64,128+v / 64 % 64,128+v % 64] h 4 rfl Cs
  simp only [List.map_cons,List.map_nil] at c1 c2 c3 c4;by_cases k1:v < 128
  ·have c:=hid (c1 Cv);clear c1 c2 c3 c4;go_wp2_with fail;rw [c.out];go_wp2_with fail;go_ret;simp only [Bb k1];exact zcl
  ·by_cases k2:v < 2048
   ·have c:=hid (c2 Cv);clear c1 c2 c3 c4;go_wp2_with fail;rw [c.out];go_wp2_with fail;go_ret;simp only [Bc (Int.not_lt.2 k1),Bb k2];exact zcl
   ·by_cases k3:v < 65536
    ·have c:=hid (c3 Cv);clear c1 c2 c3 c4;go_wp2_with fail;rw [c.out];go_wp2_with fail;go_ret;simp only [Bc (Int.not_lt.2 k1),Bc (Int.not_lt.2 k2),Bb k3];exact zcl
    ·have c:=hid (c4 Cv);clear c1 c2 c3 c4;go_wp2_with fail;rw [c.out];go_wp2_with fail;go_ret;simp only [Bc (Int.not_lt.2 k1),Bc (Int.not_lt.2 k2),Bc (Int.not_lt.2 k3)];exact zcl
def vA (l:List UInt8) (n:Nat):Nat->Int
 | 0=>gb l 0
 | 1=>if n=1 then gb l 0 else gb l 0 % 2 ^ (7 - n)
 | i+1=>64*vA l n i+gb l i % 64
theorem yQ5 (l:List UInt8) (i:Nat):0<=gb l i/\gb l i < 256:=by unfold gb;have:=(l.getD i 0).toNat_lt;omega
theorem OQ9 (l:List UInt8) (n:Nat) (h0:1<=n) (h4:n<=4):vA l n n=vN l n:=by
 rcases (by omega:n=1∨n=2∨n=3∨n=4) with rfl|rfl|rfl|rfl <;> simp [vA,vN]
theorem EQ9 (l:List UInt8) (n i:Nat) (h0:1<=n) (h4:n<=4) (hi:1<=i) (h:i<=n):0<=vA l n i/\vA l n i < 2097152:=by
 have a:=yQ5 l 0;have b:=yQ5 l 1;have c:=yQ5 l 2;have d:=yQ5 l 3;rcases (by omega:n=1∨n=2∨n=3∨n=4) with rfl|rfl|rfl|rfl <;> rcases (by omega:i=1∨i=2∨i=3∨i=4) with rfl|rfl|rfl|rfl <;> first|omega|(simp [vA];omega)
theorem SQ8 (l:List UInt8) (n i:Nat) (hi:1<=i):vA l n (i+1)=64*vA l n i+gb l i % 64:=by
 obtain⟨j,rfl⟩:∃ j,i=j+1:=⟨i - 1,Cs⟩
 rfl
theorem EQ7 {l:List UInt8}{k i:Nat} (h:k+i < l.length):(l[k+i].toNat:Int)=gb (l.drop k) i:=by
 unfold gb;rw [List.getD_eq_getElem?_getD,List.getElem?_drop,O' h]
 rfl
def fQ9 (l:List UInt8) (n:Nat):Prop:=∀ j,1<=j->j < n->fmR (vN l j)≠l.take j
theorem IQ5 (l:List UInt8) (i:Int) (hs:l.length<=1125899906842624):Calls Tryz.prog 163 #[.string ⟨l.toArray⟩,i8 i] w fun e w'=>e=.returned (.tuple #[i8 (vB l i).1,i8 (vB l i).2])/\Below w.heap.size w w':=by
 by_cases hi:i < 0∨(l.length:Int)<=i
 ·have e:vB l i=(0,0):=by unfold vB;rw [Bb hi]
  rw [e]
  go_in
  go_wp2
  all_goals first|omega|(go_ret2;exact⟨rfl,N' _ _⟩)
 ·obtain⟨k,rfl⟩:=Ad (show 0<=i by omega);have hk:k < l.length:=by omega
  obtain⟨d,hd⟩:∃ d,d=l.drop k:=⟨_,rfl⟩;have hdl:d.length=l.length - k:=by rw [hd,Ab]
  have hr:vB l (k:Int)=if (dec d).1=65533/\(dec d).2 < 2 then (0,0) else (((dec d).1:Int),((dec d).2:Int)):=by unfold vB;rw [Bc hi,hd];rfl
  have HR:=hid hr;clear hr hi;generalize vB l (k:Int)=R at *;have HD:=hid hd;have HL:=hid (Az hk hdl);clear hd hdl;have k1:decide ((l.length:Int)<=(k:Int))=false:=Cv
  go_in
  go_wp2_with fail;generalize decide ((k:Int) < 0)=z0;generalize decide (l.length<=k)=z1
  go_loopw [6] (fun u wr=>∃ n:Nat,u=i8 (n:Int)/\1<=n/\n<=5/\fQ9 d n/\Below w.heap.size w wr) (fun u _=>(5 - intOf u).toNat)
  case atStart=>exact⟨1,rfl,Cs,Cs,fun j h1 h2=>Cs,N' _ _⟩
  case round =>
   obtain⟨n,rfl,h1,h5,hno,hb⟩:=hrel;have HB:=hid hb;have HN:=hid hno;clear hb hno;by_cases hgo:n<=4/\n<=d.length
   ·have hl:=HL.out;have i1:(n:Int)<=(l.length:Int) - (k:Int):=by omega
    have hd0:(l[k].toNat:Int)=gb d 0:=by rw [HD.out];exact EQ7 (i:=0) hk
    have hw0:wrap64 (gb d 0)=gb d 0:=by have:=yQ5 d 0;unfold wrap64;omega
    have hb0:=yQ5 d 0;clear hl;have HG:=hid hgo;rcases (by omega:(n:Int)=1∨(n:Int)=2∨(n:Int)=3∨(n:Int)=4) with hz|hz|hz|hz
    all_goals
     have HV1:Hid (vA d n 1=if n=1 then gb d 0 else gb d 0 % 2 ^ (7 - n)):=hid rfl;go_wp2_with fail;clear hd0 hw0 hb0
     go_loopw [7,8] (fun u7 u8 wq=>∃ i:Nat,u7=i8 (vA d n i)/\u8=i8 (i:Int)/\1<=i/\i<=n/\wq=wr) (fun _ u _=>(5 - intOf u).toNat)
     case atStart=>exact⟨1,by rw [HV1.out,show n=_ from Int.ofNat.inj hz];rfl,rfl,Cs,h1,rfl⟩
     case round =>
      obtain⟨i,rfl,rfl,hi1,hin,rfl⟩:=hrel;by_cases hlt:i < n
      ·obtain⟨m,hm⟩:∃ m,m=k+i:=⟨_,rfl⟩;have hml:m < l.length:=by have:=HL.out;have:=HG.out;omega
       have hdi:(l[m].toNat:Int)=gb d i:=by subst hm;rw [HD.out];exact EQ7 hml
       have hbi:=yQ5 d i;have hV:=EQ9 d n i h1 HG.out.1 hi1 hin;have HV:=hid (SQ8 d n i hi1);generalize vA d n i=V at *;generalize gb d i=gi at *;have hwi:wrap64 gi=gi:=by unfold wrap64;omega
       have j0:(i:Int) < (n:Int):=Cs
       have j1:(k:Int)+(i:Int)=(m:Int):=Cs
       have j2:(0:Int)<=(m:Int):=Cs
       have j3:(m:Int) < (l.length:Int):=Cs
       clear hm hlt;go_wp2_with fail
       all_goals
        refine⟨⟨i+1,by rw [HV.out],Eh,Cs,Cs,trivial⟩,?_⟩;simp only [intOf];omega
      ·have hie:i=n:=by omega
       subst hie;rw [OQ9 d i h1 HG.out.1];obtain⟨m,hm⟩:∃ m,m=k+i:=⟨_,rfl⟩;have HM:=hid hm;have j0:(m:Int)<=(l.length:Int):=by have:=HL.out;have:=HG.out;omega
       have jw:IntKind.i64.wrap ((k:Int)+(i:Int))=(m:Int):=Cy
       have j2:(k:Int)<=(m:Int):=Cs
       have j3:(0:Int)<=(k:Int):=Cs
       have j4:(0:Int)<=(m:Int):=Cs
       clear hm;obtain⟨V,hVe⟩:∃ V,V=vN d i:=⟨_,rfl⟩;rw [<- hVe];have HVE:=hid hVe;have HTE:Hid ((fmR V==List.take (m - k) (List.drop k l))=true↔fmR (vN d i)=d.take i):=hid (by rw [hVe,HM.out,HD.out,Nat.add_sub_cancel_left];exact Bh);clear hlt hgo h5 hz hVe;have hvd:∀ T,(fmR V==List.take (m - k) (List.drop k l))=T->(T=true->((R.1=V/\R.2=(i:Int))))/\(T=false->fQ9 d (i+1)):=by
        intro T hT;have hg:=HG.out;constructor
        ·rintro rfl;obtain⟨hd1,hd2⟩:=QQ8 h1 hg.1 hg.2 (HTE.out.1 hT);have hv:0<=vN d i:=by simp [EQ4] at hd2;omega
         have hr:=HR.out;rw [hd1,<- HVE.out] at hr;rw [<- HVE.out] at hv;have h6:¬ (V.toNat=65533/\i < 2):=by
          rintro⟨x1,x2⟩;have x3:i=1:=Cs
          have x4:=HVE.out;rw [x3] at x4;have:=yQ5 d 0;simp only [vN] at x4;omega
         simp only [] at hr;rw [Bc h6] at hr;rw [hr];exact⟨G6,rfl⟩
        ·rintro rfl j j1 j2;by_cases je:j=i
         ·subst je;intro e;have:=HTE.out.2 e;rw [this] at hT;cases hT
         ·exact HN.out j j1 Cs
       have HVD:=hid hvd;clear hvd;go_wp2_with fail
       go_region_held3 (fun w'=>Below wr.heap.size wr w') (first|exact (N' _ _).drew|exact dA ‹_› ‹_›) ((go_at_call 207;refine (cQ5 V).mono ?_;rintro e w' ⟨rfl,hn⟩))
       cases hT:(fmR V==List.take (m - k) (List.drop k l)) with
       | true =>
        obtain⟨r1,r2⟩:=(HVD.out _ hT).1 rfl;go_wp2_with fail;go_ret2;refine⟨?_,dA HB.out ‹_›⟩;rw [r1,r2]
        rfl
       | false =>
        have hno:=hid ((HVD.out _ hT).2 rfl);have h4:=HG.out.1;go_wp2_with fail;go_roundw
        case rel=>exact⟨i+1,Eh,Cs,Cs,hno.out,dA HB.out ‹_›⟩
        case measure=>simp only [intOf];omega
   ·have HZ:Hid (R=(0,0)):=hid (by
     have hr:=HR.out;have hne:d≠[]:=by intro e;have:=HL.out;rw [e] at this;simp at this;omega
     rw [uQ8 hne (fun j j1 j4 jl=>HN.out j j1 Cs)] at hr;rw [hr];exact Bb ⟨rfl,Ct⟩)
    have hd:((n:Int)<=4/\decide ((n:Int)<=(l.length:Int) - (k:Int))=false)∨decide ((n:Int)<=4)=false:=by simp;have:=HL.out;omega
    rcases hd with ⟨i0,i1⟩|i0
    all_goals
     go_wp2_with fail;go_ret2;rw [HZ.out];exact⟨rfl,HB.out⟩
end Ck
namespace Ck
open Go.RowKit
variable {w w':World}
def JQ9 (w:World) (b:Nat) (L:List (Int × Int)):Prop:=b < w.heap.size/\∀ j p,L[j]?=some p->w.cell? ⟨b,j*2,none⟩=some (i8 p.1)/\w.cell? ⟨b,j*2+1,none⟩=some (i8 p.2)
def inB (r:Int) (L:List (Int × Int)):Bool:=L.any fun p=>decide (p.1<=r)&&decide (r<=p.2)
theorem IQ8 {r:Int}{L:List (Int × Int)}{i:Nat}{p:Int × Int} (h:L[i]?=some p):inB r (L.drop i)=((decide (p.1<=r)&&decide (r<=p.2))||inB r (L.drop (i+1))):=by
 obtain⟨hi,rfl⟩:=Al.1 h;rw [Aq hi]
 rfl
theorem BQ7 (r:Int) (b cap:Nat) (L:List (Int × Int)) (h:JQ9 w b L) (hl:L.length<=1000):Calls Tryz.prog 209 #[i8 r,.slice (some (y8 b 0)) L.length cap] w fun e w'=>e=.returned (.bool (inB r L))/\w'=w:=by
 have HC:=hid h;clear h;obtain⟨n,hn⟩:∃ n,n=L.length:=⟨_,rfl⟩;rw [<- hn];have HN:=hid hn;clear hn;have hl:n<=1000:=by rw [HN.out];exact hl
 obtain⟨T,hT⟩:∃ T,T=inB r L:=⟨_,rfl⟩;rw [<- hT]
 go_in
 go_wp2_with fail
 go_loop [5] (fun u=>∃ i:Nat,i<=n/\u=i8 (i:Int)/\inB r (L.drop i)=T) (fun u=>n - (intOf u).toNat)
 case atStart=>exact⟨0,Cs,rfl,hT.symm⟩
 case round =>
  obtain⟨i,hi,rfl,he⟩:=hrel;have HE:=hid he;clear he;clear hT;by_cases hlt:i < n
  ·have hp:L[i]?=some (L[i]' Dz):=O' _;obtain⟨c0,c1⟩:=HC.out.2 i _ hp;have HD:=hid (IQ8 (r:=r) hp);clear hp;generalize L[i]'_=p at *;obtain⟨p1,p2⟩:=p;simp only [] at c0 c1;have i0:(0:Int)<=(i:Int):=by omega
   have i1:(i:Int) < (n:Int):=Cs
   by_cases h1:p1<=r
   ·by_cases h2:r<=p2
    ·go_wp2_with fail;go_ret;have e:=HE.out;rw [HD.out] at e;simp only [decide_eq_true h1,decide_eq_true h2] at e;exact⟨by rw [<- e];rfl,rfl⟩
    ·have k2:decide (r<=p2)=false:=by simpa using h2
     go_wp2_with fail
     go_round
     case rel=>exact⟨i+1,Cs,Eh,by have e:=HE.out;rw [HD.out] at e;simp only [k2] at e;rw [<- e];simp⟩
     case measure=>simp [intOf];omega
   ·have k1:decide (p1<=r)=false:=by simpa using h1
    go_wp2_with fail
    go_round
    case rel=>exact⟨i+1,Cs,Eh,by have e:=HE.out;rw [HD.out] at e;simp only [k1] at e;rw [<- e];simp⟩
    case measure=>simp [intOf];omega
  ·have hie:i=n:=by omega
   have hT:T=false:=by rw [<- HE.out,hie,HN.out,List.drop_length];rfl
   rw [hT];exact zaq
def DQ5 (w:World) (a:Option Addr) (L:List (List UInt8)):Prop:=L=[]∨∃ b,a=some (y8 b 0)/\b < w.heap.size/\∀ j x,L[j]?=some x->w.cell? (y8 b j)=some (.string ⟨x.toArray⟩)
theorem RQ6 {s:List UInt8}{L:List (List UInt8)}{i:Nat}{p:List UInt8} (h:L[i]?=some p):(L.drop i).contains s=((p==s)||(L.drop (i+1)).contains s):=by
 obtain⟨hi,rfl⟩:=Al.1 h;rw [Aq hi,List.contains_cons]
 congr 1
 rw [Bg,Bh,Bh];exact⟨Eq.symm,Eq.symm⟩
end Ck
namespace Ck
open Go.RowKit
variable {w w':World}
def spC:List (Int × Int)->List Value
 | []=>[]
 | p::l=>i8 p.1::i8 p.2::spC l
theorem iQ8:∀ {l:List (Int × Int)}{i:Nat}{p:Int × Int},l[i]?=some p->(spC l)[i*2]?=some (i8 p.1)/\(spC l)[i*2+1]?=some (i8 p.2)
 | [],i,p,h=>Dd
 | q::l,0,p,h=>Jc
 | q::l,i+1,p,h=>by
  have:=iQ8 (l:=l) (i:=i) (p:=p) Dp;have e0:(i+1)*2=i*2+1+1:=Cs
  rw [e0];exact this
theorem yQ8 (w:World) (L:List (Int × Int)) (t:TypeId):JQ9 (w.alloc (.cells (spC L).toArray t)) w.heap.size L:=by
 refine⟨Cu,fun j p hp=>?_⟩;obtain⟨h1,h2⟩:=iQ8 hp;have hb:=B8 w (Obj.cells (spC L).toArray t);constructor
 ·unfold World.cell?;rw [hb];simpa using h1
 ·unfold World.cell?;rw [hb];simpa using h2
def jQ6:List (Int × Int):=[(48,57),(1632,1641),(2406,2415),(3664,3673),(65296,65305)]
theorem YQ6:Calls Tryz.prog 210 #[] w fun e w'=>e=.returned (.slice (some (y8 w.heap.size 0)) 33 33)/\w'=w.alloc (.cells (spC iD).toArray 162):=by
 go_in
 exact zaq
theorem hQ7:Calls Tryz.prog 246 #[] w fun e w'=>e=.returned (.slice (some (y8 w.heap.size 0)) 5 5)/\w'=w.alloc (.cells (spC jQ6).toArray 162):=by
 go_in
 exact zaq
theorem tP (r:Int):inB r jQ6=digitB r:=rfl
theorem oQ5 (r:Int):Calls Tryz.prog 167 #[i8 r] w fun e w'=>e=.returned (.bool (oB r))/\Below w.heap.size w w':=by
 go_in
 go_wp2_with fail;refine YQ6.mono ?_;rintro e w1 ⟨rfl,rfl⟩;have hs:=hid (yQ8 w iD 162);have hb:=(N' w.heap.size w).alloc (C' _) (Obj.cells (spC iD).toArray 162);generalize w.alloc (Obj.cells (spC iD).toArray 162)=w2 at *;go_wp2_with fail;refine (BQ7 r _ 33 iD hs.out Ct).mono ?_;rintro e w3 ⟨rfl,rfl⟩;exact zbr
theorem IQ6 (r:Int):Calls Tryz.prog 208 #[i8 r] w fun e w'=>e=.returned (.bool (digitB r))/\Below w.heap.size w w':=by
 go_in
 go_wp2_with fail;refine hQ7.mono ?_;rintro e w1 ⟨rfl,rfl⟩;have hs:=hid (yQ8 w jQ6 162);have hb:=(N' w.heap.size w).alloc (C' _) (Obj.cells (spC jQ6).toArray 162);generalize w.alloc (Obj.cells (spC jQ6).toArray 162)=w2 at *;go_wp2_with fail;refine (BQ7 r _ 5 jQ6 hs.out Ct).mono ?_;rintro e w3 ⟨rfl,rfl⟩;exact zbr
end Ck
namespace Ck
open Go.RowKit
variable {w w':World}
def mQ5:List (List UInt8):=[[98,114,101,97,107],[99,97,115,101],[99,104,97,110],[99,111,110,115,116],[99,111,110,116,105,110,117,101],[100,101,102,97,117,108,116],[100,101,102,101,114],[101,108,115,101],[102,97,108,108,116,104,114,111,117,103,104],[102,111,114],[102,117,110,99],[103,111],[103,111,116,111],[105,102],[105,109,112,111,114,116],[105,110,116,101,114,102,97,99,101],[109,97,112],[112,97,99,107,97,103,101],[114,97,110,103,101],[114,101,116,117,114,110],[115,101,108,101,99,116],[115,116,114,117,99,116],[115,119,105,116,99,104],[116,121,112,101],[118,97,114]]
def MQ4 (L:List (List UInt8)):List Value:=L.map fun x=>.string ⟨x.toArray⟩
theorem DQ8 (w:World) (L:List (List UInt8)) (t:TypeId):∀ j x,L[j]?=some x->(w.alloc (.cells (MQ4 L).toArray t)).cell? (y8 w.heap.size j)=some (.string ⟨x.toArray⟩):=by
 intro j x hx;unfold World.cell?;rw [B8 w];simp [MQ4,hx]
theorem VQ7:Calls Tryz.prog 211 #[] w fun e w'=>e=.returned (.slice (some (y8 w.heap.size 0)) 25 25)/\w'=w.alloc (.cells (MQ4 mQ5).toArray 9):=by
 go_in
 exact zaq
theorem jQ7 (s:List UInt8):Calls Tryz.prog 168 #[.string ⟨s.toArray⟩] w fun e w'=>e=.returned (.bool (iJ s))/\Below w.heap.size w w':=by
 obtain⟨T,hT⟩:∃ T,T=iJ s:=⟨_,rfl⟩;rw [<- hT]
 go_in
 go_wp2_with fail;refine VQ7.mono ?_;rintro e w1 ⟨rfl,rfl⟩;have HC:=hid (DQ8 w mQ5 9);have hb:=(N' w.heap.size w).alloc (C' _) (Obj.cells (MQ4 mQ5).toArray 9);generalize w.alloc (Obj.cells (MQ4 mQ5).toArray 9)=w2 at *;go_wp2_with fail
 go_loop [4] (fun u=>∃ i:Nat,i<=25/\u=i8 (i:Int)/\(mQ5.drop i).contains s=T) (fun u=>25 - (intOf u).toNat)
 case atStart=>exact⟨0,Cs,rfl,by rw [hT];rfl⟩
 case round =>
  obtain⟨i,hi,rfl,he⟩:=hrel;have HE:=hid he;clear he hT;by_cases hlt:i < 25
  ·obtain⟨p,hp⟩:∃ p,mQ5[i]?=some p:=⟨_,O' (show i < mQ5.length from hlt)⟩;have c0:=HC.out i _ hp;have HD:=hid (RQ6 (s:=s) hp);clear hp;have i0:(0:Int)<=(i:Int):=by omega
   have i1:(i:Int) < 25:=Cs
   cases h1:p==s with
   | true =>
    go_wp2_with fail;go_ret;exact⟨Gf,hb⟩
   | false =>
    go_wp2_with fail
    go_round
    case rel=>exact⟨i+1,Cs,Eh,Gf⟩
    case measure=>simp [intOf];omega
  ·have hie:i=25:=by omega
   have hT:T=false:=by rw [<- HE.out,hie];rfl
   rw [hT];have i1:¬ (i:Int) < 25:=Cs
   exact zbr
def PQ4 (l:List UInt8):Nat->Nat->Option (List Int)
 | 0,_=>some []
 | f+1,p=>if p < l.length then (if (vB l p).2=0 then none else (PQ4 l f (p+(vB l p).2.toNat)).map ((vB l p).1::·)) else some []
def iC (L:List Int):List Value:=L.map fun x=>i8 x
theorem FQ5 {l:List UInt8}{p:Nat} (h:p < l.length) (h2:(vB l p).2≠0):1<=(vB l p).2/\(p:Int)+(vB l p).2<=l.length:=by
 unfold vB at h2 ⊢;rw [Bc Cs] at h2 ⊢;rw [Ai] at h2 ⊢;split at h2
 ·simp at h2
 ·rename_i hv;rw [Bc hv];have hne:l.drop p≠[]:=by intro e;have:=congrArg List.length e;simp at this;omega
  have h1:=eG hne;have h3:(dec (l.drop p)).2<=(l.drop p).length:=by
   have:=Lib.decodeL_le (l.drop p) hne;rw [xQ7 hne,<- Lib.decodeL_N];exact this
  rw [Ab] at h3;simp only [];omega
def pQ5 (l:List UInt8):Option (List Int):=PQ4 l l.length 0
theorem OQ6 {l:List UInt8}{p:Nat} (h:p < l.length):((vB l p).2=0/\(dec (l.drop p)).1=65533)∨((vB l p).2≠0/\vB l p=(((dec (l.drop p)).1:Int),((dec (l.drop p)).2:Int))):=by
 have hne:l.drop p≠[]:=Ed
 have h1:=eG hne;unfold vB;rw [Bc Cs,Ai];by_cases hv:(dec (l.drop p)).1=65533/\(dec (l.drop p)).2 < 2
 ·rw [Bb hv];exact .inl ⟨rfl,hv.1⟩
 ·rw [Bc hv];exact .inr ⟨G6,rfl⟩
end Ck
