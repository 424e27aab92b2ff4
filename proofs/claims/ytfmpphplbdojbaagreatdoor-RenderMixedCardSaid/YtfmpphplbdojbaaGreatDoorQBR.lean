import Derived.Lib.MapLaws
import Derived.Test.YtfmpphplbdojbaaGreatDoorQAQ
import Derived.Laws.OwnMore
import Derived.Test.YtfmpphplbdojbaaGreatDoorQAZ
import Derived.Test.YtfmpphplbdojbaaGreatDoorQBE
import Derived.Test.YtfmpphplbdojbaaGreatDoorQAF
namespace Go.Proofs.YtfmpphplbdojbaaGreatDoor
open Lib(hid)
set_option linter.all false
set_option maxHeartbeats 40000000
set_option maxRecDepth 100000
namespace Ck
open Go.RowKit
def EQ4 (r:Int):Bool:=decide (0<=r)&&decide (r<=1114111)&&(decide (r < 55296)||decide (57343 < r))
theorem oQ6 {r:Int} (h:0<=r/\r<=1114111/\(r < 55296∨57343 < r)):¬ EQ4 r=false:=by unfold EQ4;simp;omega
def by8 (z:Int):UInt8:=z.toNat.toUInt8
def fmR (v:Int):List UInt8 :=
 if EQ4 v=false then [] else if v < 128 then [by8 v] else if v < 2048 then [by8 (192+v / 64),by8 (128+v % 64)]
 else if v < 65536 then [by8 (224+v / 4096),by8 (128+v / 64 % 64),by8 (128+v % 64)]
 else [by8 (240+v / 262144),by8 (128+v / 4096 % 64),by8 (128+v / 64 % 64),by8 (128+v % 64)]
def gb (l:List UInt8) (i:Nat):Int:=((l.getD i 0).toNat:Int)
def vN (l:List UInt8) (n:Nat):Int:=match n with
 | 1=>gb l 0
 | 2=>64*(gb l 0 % 32)+gb l 1 % 64
 | 3=>64*(64*(gb l 0 % 16)+gb l 1 % 64)+gb l 2 % 64
 | _=>64*(64*(64*(gb l 0 % 8)+gb l 1 % 64)+gb l 2 % 64)+gb l 3 % 64
theorem AQ4 {z:Int}{x:UInt8} (h0:0<=z) (h1:z < 256):by8 z=x↔z=(x.toNat:Int):=by
 have hx:=x.toNat_lt;unfold by8;constructor
 ·intro h;have:=congrArg UInt8.toNat h;simp at this;omega
 ·intro h;exact Lib.toByte z x h
theorem xQ7 {l:List UInt8} (h:l≠[]):dec l=Lib.decodeN l.length (l.getD 0 0).toNat (l.getD 1 0).toNat (l.getD 2 0).toNat (l.getD 3 0).toNat:=by
 rw [<- Lib.decodeL_N];unfold dec Lib.decodeGo Lib.decodeL;rw [if_neg Ek]
theorem QQ8 {l:List UInt8}{n:Nat} (h0:1<=n) (h4:n<=4) (hn:n<=l.length) (h:fmR (vN l n)=l.take n):dec l=((vN l n).toNat,n)/\EQ4 (vN l n)=true:=by
 have hne:l≠[]:=by intro e;subst e;simp at hn;omega
 rw [xQ7 hne];have k0:=(l.getD 0 0).toNat_lt;have k1:=(l.getD 1 0).toNat_lt;have k2:=(l.getD 2 0).toNat_lt;have k3:=(l.getD 3 0).toNat_lt;have hm:EQ4 (vN l n)=true:=by
  cases hm:EQ4 (vN l n) with
  | true=>rfl
  | false =>
   unfold fmR at h;rw [if_pos hm] at h;have:=congrArg List.length h;simp at this;omega
 refine⟨?_,hm⟩;have hv:0<=vN l n/\vN l n<=1114111/\(vN l n < 55296∨57343 < vN l n):=by simpa [EQ4,and_assoc] using hm
 unfold fmR at h;rw [if_neg (by simp [hm])] at h;rcases (by omega:n=1∨n=2∨n=3∨n=4) with rfl|rfl|rfl|rfl
 ·rw [Lib.takeA l hn] at h;simp only [vN,gb] at h hv ⊢;split at h
  ·unfold Lib.decodeN;rw [if_pos Cf];simp
  ·repeat' split at h
   all_goals simp at h
 ·rw [Lib.takeB l hn] at h;simp only [vN,gb] at h hv ⊢;split at h
  ·exact Ha
  ·split at h
   ·simp only [List.cons.injEq,and_true] at h;have a:=(AQ4 Cf Cf).1 h.1;have b:=(AQ4 Cf Cf).1 h.2;unfold Lib.decodeN;rw [if_neg Cf,if_pos Cf,if_pos Cf];simp only [Prod.mk.injEq,and_true];omega
   ·repeat' split at h
    all_goals simp at h
 ·rw [Lib.takeC l hn] at h;simp only [vN,gb] at h hv ⊢;split at h
  ·exact Ha
  ·split at h
   ·exact Ha
   ·split at h
    ·simp only [List.cons.injEq,and_true] at h;have a:=(AQ4 Cf Cf).1 h.1;have b:=(AQ4 Cf Cf).1 h.2.1;have c:=(AQ4 Cf Cf).1 h.2.2;unfold Lib.decodeN;rw [if_neg Cf,if_neg Cf,if_pos Cf,if_pos Cf];simp only [Prod.mk.injEq,and_true];omega
    ·exact Ha
 ·rw [Lib.takeD l hn] at h;simp only [vN,gb] at h hv ⊢;split at h
  ·exact Ha
  ·split at h
   ·exact Ha
   ·split at h
    ·exact Ha
    ·simp only [List.cons.injEq,and_true] at h;have a:=(AQ4 Cf Cf).1 h.1;have b:=(AQ4 Cf Cf).1 h.2.1;have c:=(AQ4 Cf Cf).1 h.2.2.1;have d:=(AQ4 Cf Cf).1 h.2.2.2;unfold Lib.decodeN;rw [if_neg Cf,if_neg Cf,if_neg Cf,if_pos Cf,if_pos Cf];simp only [Prod.mk.injEq,and_true];omega
theorem uQ8 {l:List UInt8} (hne:l≠[]) (h:∀ n,1<=n->n<=4->n<=l.length->fmR (vN l n)≠l.take n):dec l=(65533,1):=by
 have hl:0 < l.length:=List.length_pos_iff.2 hne;rw [xQ7 hne];have k0:=(l.getD 0 0).toNat_lt;have k1:=(l.getD 1 0).toNat_lt;have k2:=(l.getD 2 0).toNat_lt;have k3:=(l.getD 3 0).toNat_lt;rcases Lib.decodeN_shape l.length (l.getD 0 0).toNat (l.getD 1 0).toNat (l.getD 2 0).toNat (l.getD 3 0).toNat with ⟨c,e⟩|⟨c1,c2,c3,cv,e⟩|⟨c1,c2,c3,c4,cv,cs,e⟩|⟨c1,c2,c3,c4,c5,cv,cw,e⟩|e
 ·refine absurd ?_ (h 1 Cf Cf hl);rw [Lib.takeA l hl];simp only [vN,gb,fmR];rw [if_neg (oQ6 Cf),if_pos Cf,(AQ4 Cf Cf).2 rfl]
 ·refine absurd ?_ (h 2 Cf Cf c2);rw [Lib.takeB l c2];simp only [vN,gb,fmR];rw [if_neg (oQ6 Cf),if_neg Cf,if_pos Cf,(AQ4 (x:=l.getD 0 0) Cf Cf).2 Cf,(AQ4 (x:=l.getD 1 0) Cf Cf).2 Cf]
 ·refine absurd ?_ (h 3 Cf Cf c2);rw [Lib.takeC l c2];simp only [vN,gb,fmR];rw [if_neg (oQ6 Cf),if_neg Cf,if_neg Cf,if_pos Cf,(AQ4 (x:=l.getD 0 0) Cf Cf).2 Cf,(AQ4 (x:=l.getD 1 0) Cf Cf).2 Cf,(AQ4 (x:=l.getD 2 0) Cf Cf).2 Cf]
 ·refine absurd ?_ (h 4 Cf Cf c2);rw [Lib.takeD l c2];simp only [vN,gb,fmR];rw [if_neg (oQ6 Cf),if_neg Cf,if_neg Cf,if_neg Cf,(AQ4 (x:=l.getD 0 0) Cf Cf).2 Cf,(AQ4 (x:=l.getD 1 0) Cf Cf).2 Cf,(AQ4 (x:=l.getD 2 0) Cf Cf).2 Cf,(AQ4 (x:=l.getD 3 0) Cf Cf).2 Cf]
 ·exact e
end Ck
namespace Ck
open Go.RowKit
variable {w:World}
theorem tQ5 (r:Int):Calls Tryz.prog 204 #[.int .i64 r] w fun e w'=>e=.returned (.bool (EQ4 r))/\w'=w:=by
 unfold EQ4;go_enter Tryz.func204,Tryz.ntmps204;go_wp2
 all_goals (go_ret;exact⟨Num.TG (by simp <;> omega),rfl⟩)
theorem UQ8 {z:Int} (h0:0<=z) (h1:z < 256):((by8 z).toNat:Int)=z:=((AQ4 h0 h1).1 rfl).symm
theorem jQ5 (w:World) (zs:List Int) (h:∀ z∈zs,0<=z/\z < 256) (n:Nat) (hn:zs.length=n) (hm:n<=1000) :
  (convert 40 9 (.slice (some ⟨w.heap.size,0,none⟩) n n)).run Tryz.prog (w.alloc (.cells (zs.map fun z=>Value.int .u8 z).toArray 5))=.ok (.string ⟨(zs.map by8).toArray⟩) (w.alloc (.cells (zs.map fun z=>Value.int .u8 z).toArray 5)):=by
 have e:Lib.byteCells (zs.map by8)=zs.map fun z=>Value.int .u8 z:=by
  unfold Lib.byteCells;rw [List.map_map];refine List.map_congr_left fun z hz=>?_
  simp only [Function.comp_apply];rw [UQ8 (h z hz).1 (h z hz).2]
 have h1:=World.ownsRow_lit (base:=w.heap.size) (e:=5) (size:=1) w (zs.map fun z=>Value.int .u8 z).toArray n (C' _) Cu (by simp [hn]);have h2:(w.alloc (.cells (zs.map fun z=>Value.int .u8 z).toArray 5)).ownsRow w.heap.size 5 1 (.slice (some ⟨w.heap.size,0,none⟩) n n) (zs.map by8).length (Lib.byteCells (zs.map by8)):=by
  rw [e,List.length_map,hn];simpa using h1
 exact cM h2 0
theorem cQ5 (v:Int):Calls Tryz.prog 176 #[.int .i64 v] w fun e w'=>e=.returned (.string ⟨(fmR v).toArray⟩)/\Below w.heap.size w w':=by
 cases hm:EQ4 v with
 | false =>
  have hf:fmR v=[]:=by unfold fmR;rw [if_pos hm]
  rw [hf];go_enter Tryz.func176,Tryz.ntmps176;go_wp2_with fail;refine (tQ5 v).mono ?_;rintro e w1 ⟨rfl,rfl⟩;rw [hm];go_wp2_with fail;go_ret;exact⟨rfl,J' _ _⟩
 | true =>
  have hv:0<=v/\v<=1114111/\(v < 55296∨57343 < v):=by simpa [EQ4,and_assoc] using hm
  have hf:fmR v=(if v < 128 then [by8 v] else if v < 2048 then [by8 (192+v / 64),by8 (128+v % 64)] else if v < 65536 then [by8 (224+v / 4096),by8 (128+v / 64 % 64),by8 (128+v % 64)] else [by8 (240+v / 262144),by8 (128+v / 4096 % 64),by8 (128+v / 64 % 64),by8 (128+v % 64)]):=by unfold fmR;rw [if_neg (by simp [hm])]
  rw [hf];go_enter Tryz.func176,Tryz.ntmps176;go_wp2_with fail;refine (tQ5 v).mono ?_;rintro e w1 ⟨rfl,rfl⟩;rw [hm];have hb:=Ac;have c1:=fun h=>jQ5 w1 [v] h 1 rfl Cf
  have c2:=fun h=>jQ5 w1 [192+v / 64,128+v % 64] h 2 rfl Cf
  have c3:=fun h=>jQ5 w1 [224+v / 4096,128+v / 64 % 64,128+v % 64] h 3 rfl Cf
  have c4:=fun h=>jQ5 w1 [240+v / 262144,128+v / 4096 % 64,128+v / 64 % 64,128+v % 64] h 4 rfl Cf
  simp only [List.map_cons,List.map_nil] at c1 c2 c3 c4;by_cases k1:v < 128
  ·have c:=hid (c1 Cn);clear c1 c2 c3 c4;go_wp2_with fail;rw [c.out];go_wp2_with fail;go_ret;simp only [if_pos k1];exact⟨rfl,(J' _ _).alloc (C' _) _⟩
  ·by_cases k2:v < 2048
   ·have c:=hid (c2 Cn);clear c1 c2 c3 c4;go_wp2_with fail;rw [c.out];go_wp2_with fail;go_ret;simp only [if_neg (Int.not_lt.2 k1),if_pos k2];exact⟨rfl,(J' _ _).alloc (C' _) _⟩
   ·by_cases k3:v < 65536
    ·have c:=hid (c3 Cn);clear c1 c2 c3 c4;go_wp2_with fail;rw [c.out];go_wp2_with fail;go_ret;simp only [if_neg (Int.not_lt.2 k1),if_neg (Int.not_lt.2 k2),if_pos k3];exact⟨rfl,(J' _ _).alloc (C' _) _⟩
    ·have c:=hid (c4 Cn);clear c1 c2 c3 c4;go_wp2_with fail;rw [c.out];go_wp2_with fail;go_ret;simp only [if_neg (Int.not_lt.2 k1),if_neg (Int.not_lt.2 k2),if_neg (Int.not_lt.2 k3)];exact⟨rfl,(J' _ _).alloc (C' _) _⟩
def vA (l:List UInt8) (n:Nat):Nat->Int
 | 0=>gb l 0
 | 1=>if n=1 then gb l 0 else gb l 0 % 2 ^ (7 - n)
 | i+1=>64*vA l n i+gb l i % 64
theorem yQ5 (l:List UInt8) (i:Nat):0<=gb l i/\gb l i < 256:=by unfold gb;have:=(l.getD i 0).toNat_lt;omega
theorem OQ9 (l:List UInt8) (n:Nat) (h0:1<=n) (h4:n<=4):vA l n n=vN l n:=by
 rcases (by omega:n=1∨n=2∨n=3∨n=4) with rfl|rfl|rfl|rfl <;> simp [vA,vN]
theorem EQ9 (l:List UInt8) (n i:Nat) (h0:1<=n) (h4:n<=4) (hi:1<=i) (h:i<=n):0<=vA l n i/\vA l n i < 2097152:=by
 have a:=yQ5 l 0;have b:=yQ5 l 1;have c:=yQ5 l 2;have d:=yQ5 l 3;rcases (by omega:n=1∨n=2∨n=3∨n=4) with rfl|rfl|rfl|rfl <;> rcases (by omega:i=1∨i=2∨i=3∨i=4) with rfl|rfl|rfl|rfl <;> first|omega|(simp [vA];omega)
theorem SQ8 (l:List UInt8) (n i:Nat) (hi:1<=i):vA l n (i+1)=64*vA l n i+gb l i % 64:=by
 obtain⟨j,rfl⟩:∃ j,i=j+1:=⟨i - 1,Cf⟩
 rfl
theorem EQ7 {l:List UInt8}{k i:Nat} (h:k+i < l.length):(l[k+i].toNat:Int)=gb (l.drop k) i:=by
 unfold gb;rw [List.getD_eq_getElem?_getD,List.getElem?_drop,M' h]
 rfl
def fQ9 (l:List UInt8) (n:Nat):Prop:=∀ j,1<=j->j < n->fmR (vN l j)≠l.take j
theorem IQ5 (l:List UInt8) (i:Int) (hs:l.length<=1125899906842624):Calls Tryz.prog 128 #[.string ⟨l.toArray⟩,.int .i64 i] w fun e w'=>e=.returned (.tuple #[.int .i64 (vB l i).1,.int .i64 (vB l i).2])/\Below w.heap.size w w':=by
 by_cases hi:i < 0∨(l.length:Int)<=i
 ·have e:vB l i=(0,0):=by unfold vB;rw [if_pos hi]
  rw [e];go_enter Tryz.func128,Tryz.ntmps128;go_wp2
  all_goals first|omega|(go_ret2;exact⟨rfl,J' _ _⟩)
 ·obtain⟨k,rfl⟩:=Aa (show 0<=i by omega);have hk:k < l.length:=by omega
  obtain⟨d,hd⟩:∃ d,d=l.drop k:=⟨_,rfl⟩;have hdl:d.length=l.length - k:=by rw [hd,V']
  have hr:vB l (k:Int)=if (dec d).1=65533/\(dec d).2 < 2 then (0,0) else (((dec d).1:Int),((dec d).2:Int)):=by unfold vB;rw [if_neg hi,hd];rfl
  have HR:=hid hr;clear hr hi;generalize vB l (k:Int)=R at *;have HD:=hid hd;have HL:=hid (And.intro hk hdl);clear hd hdl;have k1:decide ((l.length:Int)<=(k:Int))=false:=Cn
  go_enter Tryz.func128,Tryz.ntmps128;go_wp2_with fail;generalize decide ((k:Int) < 0)=z0;generalize decide (l.length<=k)=z1
  go_loopw [6] (fun u wr=>∃ n:Nat,u=.int .i64 (n:Int)/\1<=n/\n<=5/\fQ9 d n/\Below w.heap.size w wr) (fun u _=>(5 - intOf u).toNat)
  case atStart=>exact⟨1,rfl,Cf,Cf,fun j h1 h2=>Cf,J' _ _⟩
  case round =>
   obtain⟨n,rfl,h1,h5,hno,hb⟩:=hrel;have HB:=hid hb;have HN:=hid hno;clear hb hno;by_cases hgo:n<=4/\n<=d.length
   ·have hl:=HL.out;have i1:(n:Int)<=(l.length:Int) - (k:Int):=by omega
    have hd0:(l[k].toNat:Int)=gb d 0:=by rw [HD.out];exact EQ7 (i:=0) hk
    have hw0:wrap64 (gb d 0)=gb d 0:=by have:=yQ5 d 0;unfold wrap64;omega
    have hb0:=yQ5 d 0;clear hl;have HG:=hid hgo;rcases (by omega:(n:Int)=1∨(n:Int)=2∨(n:Int)=3∨(n:Int)=4) with hz|hz|hz|hz
    all_goals
     have HV1:Hid (vA d n 1=if n=1 then gb d 0 else gb d 0 % 2 ^ (7 - n)):=hid rfl;go_wp2_with fail;clear hd0 hw0 hb0
     go_loopw [7,8] (fun u7 u8 wq=>∃ i:Nat,u7=.int .i64 (vA d n i)/\u8=.int .i64 (i:Int)/\1<=i/\i<=n/\wq=wr) (fun _ u _=>(5 - intOf u).toNat)
     case atStart=>exact⟨1,by rw [HV1.out,show n=_ from Int.ofNat.inj hz];rfl,rfl,Cf,h1,rfl⟩
     case round =>
      obtain⟨i,rfl,rfl,hi1,hin,rfl⟩:=hrel;by_cases hlt:i < n
      ·obtain⟨m,hm⟩:∃ m,m=k+i:=⟨_,rfl⟩;have hml:m < l.length:=by have:=HL.out;have:=HG.out;omega
       have hdi:(l[m].toNat:Int)=gb d i:=by subst hm;rw [HD.out];exact EQ7 hml
       have hbi:=yQ5 d i;have hV:=EQ9 d n i h1 HG.out.1 hi1 hin;have HV:=hid (SQ8 d n i hi1);generalize vA d n i=V at *;generalize gb d i=gi at *;have hwi:wrap64 gi=gi:=by unfold wrap64;omega
       have j0:(i:Int) < (n:Int):=Cf
       have j1:(k:Int)+(i:Int)=(m:Int):=Cf
       have j2:(0:Int)<=(m:Int):=Cf
       have j3:(m:Int) < (l.length:Int):=Cf
       clear hm hlt;go_wp2_with fail
       all_goals
        refine⟨⟨i+1,by rw [HV.out],Gv,Cf,Cf,trivial⟩,?_⟩;simp only [intOf];omega
      ·have hie:i=n:=by omega
       subst hie;rw [OQ9 d i h1 HG.out.1];obtain⟨m,hm⟩:∃ m,m=k+i:=⟨_,rfl⟩;have HM:=hid hm;have j0:(m:Int)<=(l.length:Int):=by have:=HL.out;have:=HG.out;omega
       have jw:IntKind.i64.wrap ((k:Int)+(i:Int))=(m:Int):=Cs
       have j2:(k:Int)<=(m:Int):=Cf
       have j3:(0:Int)<=(k:Int):=Cf
       have j4:(0:Int)<=(m:Int):=Cf
       clear hm;obtain⟨V,hVe⟩:∃ V,V=vN d i:=⟨_,rfl⟩;rw [<- hVe];have HVE:=hid hVe;have HTE:Hid ((fmR V==List.take (m - k) (List.drop k l))=true↔fmR (vN d i)=d.take i):=hid (by rw [hVe,HM.out,HD.out,Nat.add_sub_cancel_left];exact beq_iff_eq);clear hlt hgo h5 hz hVe;have hvd:∀ T,(fmR V==List.take (m - k) (List.drop k l))=T->(T=true->((R.1=V/\R.2=(i:Int))))/\(T=false->fQ9 d (i+1)):=by
        intro T hT;have hg:=HG.out;constructor
        ·rintro rfl;obtain⟨hd1,hd2⟩:=QQ8 h1 hg.1 hg.2 (HTE.out.1 hT);have hv:0<=vN d i:=by simp [EQ4] at hd2;omega
         have hr:=HR.out;rw [hd1,<- HVE.out] at hr;rw [<- HVE.out] at hv;have h6:¬ (V.toNat=65533/\i < 2):=by
          rintro⟨x1,x2⟩;have x3:i=1:=Cf
          have x4:=HVE.out;rw [x3] at x4;have:=yQ5 d 0;simp only [vN] at x4;omega
         simp only [] at hr;rw [if_neg h6] at hr;rw [hr];exact⟨I0,rfl⟩
        ·rintro rfl j j1 j2;by_cases je:j=i
         ·subst je;intro e;have:=HTE.out.2 e;rw [this] at hT;cases hT
         ·exact HN.out j j1 Cf
       have HVD:=hid hvd;clear hvd;go_wp2_with fail
       go_region_held3 (fun w'=>Below wr.heap.size wr w') (first|exact (J' _ _).drew|exact dA ‹_› ‹_›) ((go_at_call 176;refine (cQ5 V).mono ?_;rintro e w' ⟨rfl,hn⟩))
       cases hT:(fmR V==List.take (m - k) (List.drop k l)) with
       | true =>
        obtain⟨r1,r2⟩:=(HVD.out _ hT).1 rfl;go_wp2_with fail;go_ret2;refine⟨?_,dA HB.out ‹_›⟩;rw [r1,r2]
        rfl
       | false =>
        have hno:=hid ((HVD.out _ hT).2 rfl);have h4:=HG.out.1;go_wp2_with fail;go_roundw
        case rel=>exact⟨i+1,Gv,Cf,Cf,hno.out,dA HB.out ‹_›⟩
        case measure=>simp only [intOf];omega
   ·have HZ:Hid (R=(0,0)):=hid (by
     have hr:=HR.out;have hne:d≠[]:=by intro e;have:=HL.out;rw [e] at this;simp at this;omega
     rw [uQ8 hne (fun j j1 j4 jl=>HN.out j j1 Cf)] at hr;rw [hr];exact if_pos ⟨rfl,Ch⟩)
    have hd:((n:Int)<=4/\decide ((n:Int)<=(l.length:Int) - (k:Int))=false)∨decide ((n:Int)<=4)=false:=by simp;have:=HL.out;omega
    rcases hd with ⟨i0,i1⟩|i0
    all_goals
     go_wp2_with fail;go_ret2;rw [HZ.out];exact⟨rfl,HB.out⟩
end Ck
namespace Ck
open Go.RowKit
variable {w w':World}
def JQ9 (w:World) (b:Nat) (L:List (Int × Int)):Prop:=b < w.heap.size/\∀ j p,L[j]?=some p->w.cell? ⟨b,j*2,none⟩=some (.int .i64 p.1)/\w.cell? ⟨b,j*2+1,none⟩=some (.int .i64 p.2)
def inB (r:Int) (L:List (Int × Int)):Bool:=L.any fun p=>decide (p.1<=r)&&decide (r<=p.2)
theorem IQ8 {r:Int}{L:List (Int × Int)}{i:Nat}{p:Int × Int} (h:L[i]?=some p):inB r (L.drop i)=((decide (p.1<=r)&&decide (r<=p.2))||inB r (L.drop (i+1))):=by
 obtain⟨hi,rfl⟩:=Ai.1 h;rw [An hi]
 rfl
theorem BQ7 (r:Int) (b cap:Nat) (L:List (Int × Int)) (h:JQ9 w b L) (hl:L.length<=1000):Calls Tryz.prog 130 #[.int .i64 r,.slice (some ⟨b,0,none⟩) L.length cap] w fun e w'=>e=.returned (.bool (inB r L))/\w'=w:=by
 have HC:=hid h;clear h;obtain⟨n,hn⟩:∃ n,n=L.length:=⟨_,rfl⟩;rw [<- hn];have HN:=hid hn;clear hn;have hl:n<=1000:=by rw [HN.out];exact hl
 obtain⟨T,hT⟩:∃ T,T=inB r L:=⟨_,rfl⟩;rw [<- hT];go_enter Tryz.func130,Tryz.ntmps130;go_wp2_with fail
 go_loop [5] (fun u=>∃ i:Nat,i<=n/\u=.int .i64 (i:Int)/\inB r (L.drop i)=T) (fun u=>n - (intOf u).toNat)
 case atStart=>exact⟨0,Cf,rfl,hT.symm⟩
 case round =>
  obtain⟨i,hi,rfl,he⟩:=hrel;have HE:=hid he;clear he;clear hT;by_cases hlt:i < n
  ·have hp:L[i]?=some (L[i]' Hi):=M' _;obtain⟨c0,c1⟩:=HC.out.2 i _ hp;have HD:=hid (IQ8 (r:=r) hp);clear hp;generalize L[i]'_=p at *;obtain⟨p1,p2⟩:=p;simp only [] at c0 c1;have i0:(0:Int)<=(i:Int):=by omega
   have i1:(i:Int) < (n:Int):=Cf
   by_cases h1:p1<=r
   ·by_cases h2:r<=p2
    ·go_wp2_with fail;go_ret;have e:=HE.out;rw [HD.out] at e;simp only [decide_eq_true h1,decide_eq_true h2] at e;exact⟨by rw [<- e];rfl,rfl⟩
    ·have k2:decide (r<=p2)=false:=by simpa using h2
     go_wp2_with fail
     go_round
     case rel=>exact⟨i+1,Cf,Gv,by have e:=HE.out;rw [HD.out] at e;simp only [k2] at e;rw [<- e];simp⟩
     case measure=>simp [intOf];omega
   ·have k1:decide (p1<=r)=false:=by simpa using h1
    go_wp2_with fail
    go_round
    case rel=>exact⟨i+1,Cf,Gv,by have e:=HE.out;rw [HD.out] at e;simp only [k1] at e;rw [<- e];simp⟩
    case measure=>simp [intOf];omega
  ·have hie:i=n:=by omega
   have hT:T=false:=by rw [<- HE.out,hie,HN.out,List.drop_length];rfl
   rw [hT];go_wp2_with fail;go_ret;exact⟨rfl,rfl⟩
def DQ5 (w:World) (a:Option Addr) (L:List (List UInt8)):Prop:=L=[]∨∃ b,a=some ⟨b,0,none⟩/\b < w.heap.size/\∀ j x,L[j]?=some x->w.cell? ⟨b,j,none⟩=some (.string ⟨x.toArray⟩)
theorem RQ6 {s:List UInt8}{L:List (List UInt8)}{i:Nat}{p:List UInt8} (h:L[i]?=some p):(L.drop i).contains s=((p==s)||(L.drop (i+1)).contains s):=by
 obtain⟨hi,rfl⟩:=Ai.1 h;rw [An hi,List.contains_cons]
 congr 1
 rw [Bool.eq_iff_iff,beq_iff_eq,beq_iff_eq];exact⟨Eq.symm,Eq.symm⟩
theorem dQ7 (s:List UInt8) (a:Option Addr) (cap:Nat) (L:List (List UInt8)) (h:DQ5 w a L) (hl:L.length<=1000):Calls Tryz.prog 59 #[.string ⟨s.toArray⟩,.slice a L.length cap] w fun e w'=>e=.returned (.bool (L.contains s))/\w'=w:=by
 rcases h with rfl|⟨b,rfl,hb,hc⟩
 ·go_enter Tryz.func59,Tryz.ntmps59;go_wp2_with fail;refine wp_loop_rounds 1 ?_;rw [rounds_succ];go_wp2_with fail;go_ret;exact⟨rfl,rfl⟩
 ·have HC:=hid hc;clear hc;obtain⟨n,hn⟩:∃ n,n=L.length:=⟨_,rfl⟩;rw [<- hn];have HN:=hid hn;clear hn;have hl:n<=1000:=by rw [HN.out];exact hl
  obtain⟨T,hT⟩:∃ T,T=L.contains s:=⟨_,rfl⟩;rw [<- hT];go_enter Tryz.func59,Tryz.ntmps59;go_wp2_with fail
  go_loop [5] (fun u=>∃ i:Nat,i<=n/\u=.int .i64 (i:Int)/\(L.drop i).contains s=T) (fun u=>n - (intOf u).toNat)
  case atStart=>exact⟨0,Cf,rfl,hT.symm⟩
  case round =>
   obtain⟨i,hi,rfl,he⟩:=hrel;have HE:=hid he;clear he;clear hT;by_cases hlt:i < n
   ·have hp:L[i]?=some (L[i]' Hi):=M' _;have c0:=HC.out i _ hp;have HD:=hid (RQ6 (s:=s) hp);clear hp;generalize L[i]'_=p at *;have i0:(0:Int)<=(i:Int):=by omega
    have i1:(i:Int) < (n:Int):=Cf
    cases h1:p==s with
    | true =>
     go_wp2_with fail;go_ret;exact⟨by rw [<- HE.out,HD.out,h1];rfl,rfl⟩
    | false =>
     go_wp2_with fail
     go_round
     case rel=>exact⟨i+1,Cf,Gv,by rw [<- HE.out,HD.out,h1];rfl⟩
     case measure=>simp [intOf];omega
   ·have hie:i=n:=by omega
    have hT:T=false:=by rw [<- HE.out,hie,HN.out,List.drop_length];rfl
    rw [hT];go_wp2_with fail;go_ret;exact⟨rfl,rfl⟩
end Ck
namespace Ck
open Go.RowKit
variable {w w':World}
def spC:List (Int × Int)->List Value
 | []=>[]
 | p::l=>.int .i64 p.1::.int .i64 p.2::spC l
theorem iQ8:∀ {l:List (Int × Int)}{i:Nat}{p:Int × Int},l[i]?=some p->(spC l)[i*2]?=some (.int .i64 p.1)/\(spC l)[i*2+1]?=some (.int .i64 p.2)
 | [],i,p,h=>Ha
 | q::l,0,p,h=>by simp at h;subst h;exact⟨rfl,rfl⟩
 | q::l,i+1,p,h=>by
  have:=iQ8 (l:=l) (i:=i) (p:=p) Dc;have e0:(i+1)*2=i*2+1+1:=Cf
  rw [e0];exact this
theorem yQ8 (w:World) (L:List (Int × Int)) (t:TypeId):JQ9 (w.alloc (.cells (spC L).toArray t)) w.heap.size L:=by
 refine⟨Cm,fun j p hp=>?_⟩;obtain⟨h1,h2⟩:=iQ8 hp;have hb:=heap_alloc_new w (Obj.cells (spC L).toArray t);constructor
 ·unfold World.cell?;rw [hb];simpa using h1
 ·unfold World.cell?;rw [hb];simpa using h2
def jQ6:List (Int × Int):=[(48,57),(1632,1641),(2406,2415),(3664,3673),(65296,65305)]
theorem YQ6:Calls Tryz.prog 131 #[] w fun e w'=>e=.returned (.slice (some ⟨w.heap.size,0,none⟩) 33 33)/\w'=w.alloc (.cells (spC iD).toArray 187):=by
 go_enter Tryz.func131,Tryz.ntmps131;go_wp2_with fail;go_ret;exact⟨rfl,rfl⟩
theorem hQ7:Calls Tryz.prog 132 #[] w fun e w'=>e=.returned (.slice (some ⟨w.heap.size,0,none⟩) 5 5)/\w'=w.alloc (.cells (spC jQ6).toArray 187):=by
 go_enter Tryz.func132,Tryz.ntmps132;go_wp2_with fail;go_ret;exact⟨rfl,rfl⟩
theorem tP (r:Int):inB r jQ6=digitB r:=rfl
theorem oQ5 (r:Int):Calls Tryz.prog 94 #[.int .i64 r] w fun e w'=>e=.returned (.bool (oB r))/\Below w.heap.size w w':=by
 go_enter Tryz.func94,Tryz.ntmps94;go_wp2_with fail;refine YQ6.mono ?_;rintro e w1 ⟨rfl,rfl⟩;have hs:=hid (yQ8 w iD 187);have hb:=(J' w.heap.size w).alloc (C' _) (Obj.cells (spC iD).toArray 187);generalize w.alloc (Obj.cells (spC iD).toArray 187)=w2 at *;go_wp2_with fail;refine (BQ7 r _ 33 iD hs.out Ch).mono ?_;rintro e w3 ⟨rfl,rfl⟩;go_wp2_with fail;go_ret;exact⟨rfl,hb⟩
theorem IQ6 (r:Int):Calls Tryz.prog 95 #[.int .i64 r] w fun e w'=>e=.returned (.bool (digitB r))/\Below w.heap.size w w':=by
 go_enter Tryz.func95,Tryz.ntmps95;go_wp2_with fail;refine hQ7.mono ?_;rintro e w1 ⟨rfl,rfl⟩;have hs:=hid (yQ8 w jQ6 187);have hb:=(J' w.heap.size w).alloc (C' _) (Obj.cells (spC jQ6).toArray 187);generalize w.alloc (Obj.cells (spC jQ6).toArray 187)=w2 at *;go_wp2_with fail;refine (BQ7 r _ 5 jQ6 hs.out Ch).mono ?_;rintro e w3 ⟨rfl,rfl⟩;go_wp2_with fail;go_ret;exact⟨rfl,hb⟩
end Ck
namespace Ck
open Go.RowKit
variable {w w':World}
def mQ5:List (List UInt8):=[[98,114,101,97,107],[99,97,115,101],[99,104,97,110],[99,111,110,115,116],[99,111,110,116,105,110,117,101],[100,101,102,97,117,108,116],[100,101,102,101,114],[101,108,115,101],[102,97,108,108,116,104,114,111,117,103,104],[102,111,114],[102,117,110,99],[103,111],[103,111,116,111],[105,102],[105,109,112,111,114,116],[105,110,116,101,114,102,97,99,101],[109,97,112],[112,97,99,107,97,103,101],[114,97,110,103,101],[114,101,116,117,114,110],[115,101,108,101,99,116],[115,116,114,117,99,116],[115,119,105,116,99,104],[116,121,112,101],[118,97,114]]
def MQ4 (L:List (List UInt8)):List Value:=L.map fun x=>.string ⟨x.toArray⟩
theorem DQ8 (w:World) (L:List (List UInt8)) (t:TypeId):∀ j x,L[j]?=some x->(w.alloc (.cells (MQ4 L).toArray t)).cell? ⟨w.heap.size,j,none⟩=some (.string ⟨x.toArray⟩):=by
 intro j x hx;unfold World.cell?;rw [heap_alloc_new w];simp [MQ4,hx]
theorem VQ7:Calls Tryz.prog 129 #[] w fun e w'=>e=.returned (.slice (some ⟨w.heap.size,0,none⟩) 25 25)/\w'=w.alloc (.cells (MQ4 mQ5).toArray 9):=by
 go_enter Tryz.func129,Tryz.ntmps129;go_wp2_with fail;go_ret;exact⟨rfl,rfl⟩
theorem jQ7 (s:List UInt8):Calls Tryz.prog 93 #[.string ⟨s.toArray⟩] w fun e w'=>e=.returned (.bool (iJ s))/\Below w.heap.size w w':=by
 obtain⟨T,hT⟩:∃ T,T=iJ s:=⟨_,rfl⟩;rw [<- hT];go_enter Tryz.func93,Tryz.ntmps93;go_wp2_with fail;refine VQ7.mono ?_;rintro e w1 ⟨rfl,rfl⟩;have HC:=hid (DQ8 w mQ5 9);have hb:=(J' w.heap.size w).alloc (C' _) (Obj.cells (MQ4 mQ5).toArray 9);generalize w.alloc (Obj.cells (MQ4 mQ5).toArray 9)=w2 at *;go_wp2_with fail
 go_loop [4] (fun u=>∃ i:Nat,i<=25/\u=.int .i64 (i:Int)/\(mQ5.drop i).contains s=T) (fun u=>25 - (intOf u).toNat)
 case atStart=>exact⟨0,Cf,rfl,by rw [hT];rfl⟩
 case round =>
  obtain⟨i,hi,rfl,he⟩:=hrel;have HE:=hid he;clear he hT;by_cases hlt:i < 25
  ·obtain⟨p,hp⟩:∃ p,mQ5[i]?=some p:=⟨_,M' (show i < mQ5.length from hlt)⟩;have c0:=HC.out i _ hp;have HD:=hid (RQ6 (s:=s) hp);clear hp;have i0:(0:Int)<=(i:Int):=by omega
   have i1:(i:Int) < 25:=Cf
   cases h1:p==s with
   | true =>
    go_wp2_with fail;go_ret;exact⟨by rw [<- HE.out,HD.out,h1];rfl,hb⟩
   | false =>
    go_wp2_with fail
    go_round
    case rel=>exact⟨i+1,Cf,Gv,by rw [<- HE.out,HD.out,h1];rfl⟩
    case measure=>simp [intOf];omega
  ·have hie:i=25:=by omega
   have hT:T=false:=by rw [<- HE.out,hie];rfl
   rw [hT];have i1:¬ (i:Int) < 25:=Cf
   go_wp2_with fail;go_ret;exact⟨rfl,hb⟩
def PQ4 (l:List UInt8):Nat->Nat->Option (List Int)
 | 0,_=>some []
 | f+1,p=>if p < l.length then (if (vB l p).2=0 then none else (PQ4 l f (p+(vB l p).2.toNat)).map ((vB l p).1::·)) else some []
def iC (L:List Int):List Value:=L.map fun x=>.int .i64 x
theorem FQ5 {l:List UInt8}{p:Nat} (h:p < l.length) (h2:(vB l p).2≠0):1<=(vB l p).2/\(p:Int)+(vB l p).2<=l.length:=by
 unfold vB at h2 ⊢;rw [if_neg Cf] at h2 ⊢;rw [Ae] at h2 ⊢;split at h2
 ·simp at h2
 ·rename_i hv;rw [if_neg hv];have hne:l.drop p≠[]:=by intro e;have:=congrArg List.length e;simp at this;omega
  have h1:=eG hne;have h3:(dec (l.drop p)).2<=(l.drop p).length:=by
   have:=Lib.decodeL_le (l.drop p) hne;rw [xQ7 hne,<- Lib.decodeL_N];exact this
  rw [V'] at h3;simp only [];omega
theorem kQ6 {l:List UInt8}:∀ (f g p:Nat),l.length<=p+f->l.length<=p+g->PQ4 l f p=PQ4 l g p
 | 0,0,_,_,_=>rfl
 | 0,g+1,p,h,_=>by unfold PQ4;rw [if_neg Cf]
 | f+1,0,p,_,h=>by unfold PQ4;rw [if_neg Cf]
 | f+1,g+1,p,h1,h2=>by
  unfold PQ4;by_cases hp:p < l.length
  ·rw [if_pos hp,if_pos hp];by_cases h0:(vB l p).2=0
   ·rw [if_pos h0,if_pos h0]
   ·rw [if_neg h0,if_neg h0];have:=FQ5 hp h0;rw [kQ6 f g _ Cf Cf]
  ·rw [if_neg hp,if_neg hp]
def pQ5 (l:List UInt8):Option (List Int):=PQ4 l l.length 0
theorem Tryz.infoI64:(Tryz.prog.info? 2).map (fun i=>(i.zero,i.size,i.bytes))=some (some (.int .i64 0),1,8):=Ci
def bQ6 (l:List UInt8) (W:World) (e:Ending) (w':World):Prop:=match pQ5 l with
 | none=>e=.returned (.tuple #[.slice none 0 0,.bool false])
 | some L=>∃ v,e=.returned (.tuple #[v,.bool true])/\w'.ownsRow W.heap.size 2 1 v L.length (iC L)
theorem fQ7 {l:List UInt8}{W w':World} (h:pQ5 l=none):bQ6 l W (.returned (.tuple #[.slice none 0 0,.bool false])) w':=by unfold bQ6;rw [h]
theorem aQ7 {l:List UInt8}{W w':World}{L:List Int}{v:Value} (h:pQ5 l=some L) (ho:w'.ownsRow W.heap.size 2 1 v L.length (iC L)):bQ6 l W (.returned (.tuple #[v,.bool true])) w':=by unfold bQ6;rw [h];exact⟨v,rfl,ho⟩
theorem pV (l:List UInt8) (hs:l.length<=1048576):Calls Tryz.prog 92 #[.string ⟨l.toArray⟩] w fun e w'=>bQ6 l w e w'/\Below w.heap.size w w':=by
 go_enter Tryz.func92,Tryz.ntmps92;go_wp2_with fail
 go_loopw [4,5] (fun u4 u5 wr=>∃ (p:Nat) (out:List Int),u5=.int .i64 (p:Int)/\p<=l.length/\out.length<=p/\wr.ownsRow w.heap.size 2 1 u4 out.length (iC out)/\(PQ4 l (l.length - p) p).map (out++·)=pQ5 l/\Below w.heap.size w wr) (fun _ u _=>(l.length - intOf u).toNat)
 case atStart=>exact⟨0,[],rfl,Cf,Cm,As _ _ _ _,by simp [pQ5],J' _ _⟩
 case round =>
  obtain⟨p,out,rfl,hp,ho,hown,he,hb⟩:=hrel;have HE:=hid he;have HO:=hid hown;have HB:=hid hb;clear he hown hb;by_cases hlt:p < l.length
  ·have i0:(0:Int)<=(p:Int):=by omega
   have i1:(p:Int) < (l.length:Int):=Cf
   go_wp2_with fail;refine (IQ5 l p Cf).mono ?_;rintro e w2 ⟨rfl,hb2⟩;have HB2:=hid hb2;clear hb2;have HR:=hid (FQ5 hlt);have HE2:Hid (PQ4 l (l.length - p) p=if (vB l p).2=0 then none else (PQ4 l (l.length - p - 1) (p+(vB l p).2.toNat)).map ((vB l p).1::·)):=hid (by
    obtain⟨g,hg⟩:∃ g,l.length - p=g+1:=⟨l.length - p - 1,Cf⟩;rw [hg,Nat.add_sub_cancel]
    conv=>lhs;unfold PQ4
    rw [if_pos hlt])
   obtain⟨⟨r,n⟩,hrn⟩:∃ x,x=vB l p:=⟨_,rfl⟩;rw [<- hrn] at HE2 HR ⊢;clear hrn;simp only [] at HE2 HR ⊢;by_cases hn:n=0
   ·subst hn;have hnone:pQ5 l=none:=by rw [<- HE.out,HE2.out,if_pos rfl];rfl
    go_wp2_with fail;go_ret2;exact⟨fQ7 hnone,dA HB.out HB2.out⟩
   ·have hr:=HR.out hn;obtain⟨m,rfl⟩:=Aa (show 0<=n by omega);have n0:((m:Int)==0)=false:=by simpa using hn
    have HRM:=hid hr;have hown:=LD HO.out HB2.out;have hwz:=HB.out.size;have hwz2:=HB2.out.size;obtain⟨iN,hiN,hz0,hz1,hz2⟩:=info_parts Tryz.infoI64;clear hn hr;go_wp2_with (at_builtin;refine wpList_append_lies _ rfl (.tmp 20) (.tmp 22) 131 rfl w.heap.size 2 iN _ 1 8 Tryz.underlying131 hiN hz0 hz1 hz2 rfl Cf u4 out.length (iC out) rfl (hown.alloc _) ⟨w2.heap.size,0,none⟩ 1 1 [.int .i64 r] rfl rfl (Aq (cs:=#[.int .i64 r]) (t:=2) (fr:=(0,0)) (heap_alloc_new w2 _)) Eb Cf Cu Cf Cn (w2.heap.size+1) Cm ?_);intro gg cap w3 hown3 hgrow3 hat3 hlt3;have hb3:Below w.heap.size w w3:=((dA HB.out HB2.out).alloc Cf _).grown hgrow3 Cn (fun k hk=>(hown.lt k hk).1);have hown3:w3.ownsRow w.heap.size 2 1 (Value.slice (some ⟨gg,0,none⟩) (out.length+1) cap) (out++[r]).length (iC (out++[r])):=by
     rw [O'];unfold iC;rw [List.map_append];exact hown3
    have HB3:=hid hb3;have HO3:=hid hown3;clear hb3 hown3 hgrow3 hat3 hlt3 hown hwz hwz2 hz0 hz1 hz2 hiN;obtain⟨v3,hv3⟩:∃ v3,v3=Value.slice (some ⟨gg,0,none⟩) (out.length+1) cap:=⟨_,rfl⟩;rw [<- hv3] at HO3 ⊢;clear hv3;have hrm:=HRM.out;have j0:(p:Int)+(m:Int)=((p+m:Nat):Int):=Cf
    have j1:p+m<=l.length:=Cf
    have j2:1<=m:=Cf
    clear hrm;generalize hq:p+m=q at *;go_wp2_with fail;go_roundw
    case rel =>
     refine⟨q,out++[r],rfl,j1,Cn,HO3.out,?_,HB3.out⟩;have e:=HE.out;rw [HE2.out,if_neg (by simpa using n0)] at e;rw [<- e,Ae,hq,kQ6 (l.length - q) (l.length - p - 1) q Cf Cf,Option.map_map]
     congr 1
     funext x;simp
    case measure=>simp only [intOf];omega
  ·have hpl:p=l.length:=by omega
   have i1:¬ (p:Int) < (l.length:Int):=Cf
   have hsome:pQ5 l=some out:=by rw [<- HE.out,hpl,Nat.sub_self];simp [PQ4]
   go_wp2_with fail;go_ret2;exact⟨aQ7 hsome HO.out,HB.out⟩
end Ck
namespace Ck
open Go.RowKit
variable {w w':World}
theorem OQ6 {l:List UInt8}{p:Nat} (h:p < l.length):((vB l p).2=0/\(dec (l.drop p)).1=65533)∨((vB l p).2≠0/\vB l p=(((dec (l.drop p)).1:Int),((dec (l.drop p)).2:Int))):=by
 have hne:l.drop p≠[]:=Ft
 have h1:=eG hne;unfold vB;rw [if_neg Cf,Ae];by_cases hv:(dec (l.drop p)).1=65533/\(dec (l.drop p)).2 < 2
 ·rw [if_pos hv];exact .inl ⟨rfl,hv.1⟩
 ·rw [if_neg hv];exact .inr ⟨I0,rfl⟩
theorem uQ6 {l:List UInt8}:∀ (f p:Nat),PQ4 l f p=none↔0<=DE l f p
 | 0,p=>by unfold PQ4 DE;simp
 | f+1,p=>by
  unfold PQ4 DE;by_cases hp:p < l.length
  ·rw [if_pos hp,if_pos hp];rcases OQ6 hp with ⟨h1,h2⟩|⟨h1,h2⟩
   ·rw [if_pos h1,if_pos ⟨h2,h1⟩];simp
   ·rw [if_neg h1,if_neg (fun h=>h1 h.2),Option.map_eq_none_iff,uQ6 f,h2];simp
  ·rw [if_neg hp,if_neg hp];simp
def CQ5 (x:Int):Bool:=oB x||digitB x
theorem NQ6 {l:List UInt8}:∀ (f p:Nat) (L:List Int),PQ4 l f p=some L->rH l f p=(match L with|[]=>true|r::t=>(oB r||(decide (p≠0)&&digitB r))&&t.all CQ5)
 | 0,p,L,h=>by unfold PQ4 at h;cases h;rfl
 | f+1,p,L,h=>by
  unfold PQ4 at h;unfold rH;by_cases hp:p < l.length
  ·rw [if_pos hp] at h ⊢;rcases OQ6 hp with ⟨h1,h2⟩|⟨h1,h2⟩
   ·rw [if_pos h1] at h;cases h
   ·rw [if_neg h1,h2] at h;rw [h2] at h1;simp only [Ae] at h;obtain⟨L2,hL,rfl⟩:=Option.map_eq_some_iff.1 h;have ih:=NQ6 f _ _ hL;simp only [] at h1;by_cases hc:(oB (dec (l.drop p)).1||(decide (p≠0)&&digitB (dec (l.drop p)).1))=true
    ·simp only [hc,if_true,Bool.true_and,ih];cases L2 with
     | nil=>rfl
     | cons r t =>
      have:decide (p+(dec (l.drop p)).2≠0)=true:=Cn
      simp only [this,Bool.true_and,List.all_cons]
      rfl
    ·simp only [hc,if_false,Bool.false_and]
     rfl
  ·rw [if_neg hp] at h ⊢;cases h;rfl
theorem BQ6 {l:List UInt8}:∀ (f p:Nat) (L:List Int),p<=l.length->PQ4 l f p=some L->L.length+p<=l.length
 | 0,p,L,hp,h=>by unfold PQ4 at h;cases h;simpa using hp
 | f+1,p,L,hp,h=>by
  unfold PQ4 at h;split at h
  ·rename_i hlt;split at h
   ·exact C4
   ·rename_i h0;obtain⟨L2,hL,rfl⟩:=Option.map_eq_some_iff.1 h;have h1:=FQ5 hlt h0;have:=BQ6 f _ _ Cf hL;simp only [Ab];omega
  ·cases h;simpa using hp
theorem tQ8 {l:List UInt8} (h:pQ5 l=some []):l=[]:=by
 unfold pQ5 at h;cases l with
 | nil=>rfl
 | cons a r =>
  unfold PQ4 at h;simp only [Ab] at h;rw [if_pos Cf] at h;split at h
  ·exact C4
  ·exact Ha
theorem sQ7 {l:List UInt8} (h:pQ5 l=none):VM l=false:=by
 unfold VM;rw [if_pos];exact .inr (.inr ((uQ6 _ _).1 h))
theorem PQ7 {l:List UInt8} (h:pQ5 l=some []):VM l=false:=by
 rw [tQ8 h];rfl
theorem iQ7 {l:List UInt8}{r:Int}{t:List Int} (h:pQ5 l=some (r::t)):VM l=(!iJ l&&(oB r&&t.all CQ5)):=by
 have hne:(l==[])=false:=by
  cases l with
  | nil=>simp [pQ5,PQ4] at h
  | cons a q=>rfl
 have hb:¬ 0<=ZJ l:=fun hb=>by have:=(uQ6 l.length 0).2 hb;rw [show PQ4 l l.length 0=_ from h] at this;cases this
 unfold VM;cases hw:iJ l with
 | true=>rw [if_pos (.inr (.inl rfl))];rfl
 | false =>
  rw [if_neg (by simp [hne,hb]),NQ6 _ _ _ h];simp
theorem OQ8 {L:List Int}{i:Nat}{x:Int} (h:L[i]?=some x):(L.drop i).all CQ5=(CQ5 x&&(L.drop (i+1)).all CQ5):=by
 obtain⟨hi,rfl⟩:=Ai.1 h;rw [An hi,List.all_cons]
theorem RQ8 {w:World}{base:Nat}{v:Value}{L:List Int} (ho:w.ownsRow base 2 1 v L.length (iC L)) (hne:L≠[]) :
  ∃ g cap,v=.slice (some ⟨g,0,none⟩) L.length cap/\base<=g/\g < w.heap.size/\∀ j x,L[j]?=some x->w.cell? ⟨g,j,none⟩=some (.int .i64 x):=by
 rcases ho.2 with ⟨_,e0⟩|⟨g,cap,cur,e1,e2,e3,e4,e5,e6,e7⟩
 ·exact absurd (List.length_eq_zero_iff.1 e0) hne
 ·subst e1;refine⟨g,cap,rfl,e2,(ho.lt g rfl).2,fun j x hx=>?_⟩;have h1:=ho.cells (g:=g) rfl j (.int .i64 x) (by simp [iC,hx]);have hadd:(⟨g,0,none⟩:Addr).add j=⟨g,j,none⟩:=by unfold Addr.add;split <;> simp_all
  rw [hadd] at h1;exact h1
theorem cQ7 (l:List UInt8) (hs:l.length<=1048576):Calls Tryz.prog 56 #[.string ⟨l.toArray⟩] w fun e w'=>e=.returned (.bool (VM l))/\Below w.heap.size w w':=by
 obtain⟨T,hT⟩:∃ T,T=VM l:=⟨_,rfl⟩;rw [<- hT];have HT:=hid hT;clear hT;go_enter Tryz.func56,Tryz.ntmps56;go_wp2_with fail;refine (pV l hs).mono ?_;rintro e w2 ⟨ho,hb2⟩;have HB2:=hid hb2;clear hb2;unfold bQ6 at ho;cases hL:pQ5 l with
 | none =>
  rw [hL] at ho;subst ho;have hT:T=false:=by rw [HT.out,sQ7 hL]
  go_wp2_with fail;go_ret;exact⟨by rw [hT];rfl,HB2.out⟩
 | some L =>
  rw [hL] at ho;obtain⟨v,rfl,ho⟩:=ho;cases L with
  | nil =>
   have hT:T=false:=by rw [HT.out,PQ7 hL]
   obtain⟨_,_,rfl⟩:=Grd.ID ho;go_wp2_with fail;go_ret;exact⟨by rw [hT];rfl,HB2.out⟩
  | cons r t =>
   have HE:Hid (T=(!iJ l&&(oB r&&t.all CQ5))):=hid (by rw [HT.out,iQ7 hL]);obtain⟨g,cap,rfl,hg,hgl,hc⟩:=RQ8 ho Cm;obtain⟨n,hn⟩:∃ n,n=(r::t).length:=⟨_,rfl⟩;rw [<- hn];have hl:n<=1048576:=by have:=BQ6 _ _ _ (Nat.zero_le _) hL;omega
   have n0:((n:Int)==0)=false:=by rw [hn,Ab];simp;omega
   have n1:(0:Int) < (n:Int):=by rw [hn];simp
   have c0:=hc 0 r rfl;have HC:=hid hc;have HG:=hid hgl;have HN:=hid hn;clear ho hc hg hgl hn HT;go_wp2_with fail;refine (jQ7 l).mono ?_;rintro e w3 ⟨rfl,hb3⟩;cases hw:iJ l with
   | true =>
    have hT:T=false:=by rw [HE.out,hw];rfl
    go_wp2_with fail;go_ret;exact⟨by rw [hT];rfl,dA HB2.out hb3⟩
   | false =>
    have c1:=(hb3.cell (p:=⟨g,0,none⟩) HG.out).trans c0;have HB3:=hid (dA HB2.out hb3);have HC3:=hid hb3;clear hb3 c0;go_wp2_with fail;refine (oQ5 r).mono ?_;rintro e w4 ⟨rfl,hb4⟩;cases hr:oB r with
    | false =>
     have hT:T=false:=by rw [HE.out,hr];simp
     go_wp2_with fail;go_ret;exact⟨by rw [hT];rfl,dA HB3.out hb4⟩
    | true =>
     have HU:Hid (((r::t).drop 0).all CQ5=T):=hid (by rw [HE.out,hw,hr];simp [CQ5,hr]);have HB4:=hid (dA HB3.out hb4);have HC4:=hid (dA HC3.out hb4);clear HE hb4 hw hr c1 hL;generalize r::t=L at *;go_wp2_with fail
     go_loopw [5] (fun u wr=>∃ i:Nat,u=.int .i64 (i:Int)/\i<=n/\(L.drop i).all CQ5=T/\Below w4.heap.size w4 wr) (fun u _=>(n - intOf u).toNat)
     case atStart=>exact⟨0,rfl,Cf,HU.out,J' _ _⟩
     case round =>
      obtain⟨i,rfl,hi,hu,hbr⟩:=hrel;have HU2:=hid hu;have HBR:=hid hbr;clear hu hbr;by_cases hlt:i < n
      ·obtain⟨x,hx⟩:∃ x,L[i]?=some x:=⟨_,M' Hi⟩;have c0:=((dA HC4.out HBR.out).cell (p:=⟨g,i,none⟩) HG.out).trans (HC.out i x hx);have HD:=hid (OQ8 hx);have i0:(0:Int)<=(i:Int):=by omega
       have i1:(i:Int) < (n:Int):=Cf
       clear hx;go_wp2_with fail;refine (oQ5 x).mono ?_;rintro e w5 ⟨rfl,hb5⟩;have HB5:=hid (dA HBR.out hb5);have c1:=(hb5.cell (p:=⟨g,i,none⟩) (Af HG.out (dA HC4.out HBR.out).size)).trans c0;clear hb5 c0;cases hr:oB x with
       | true =>
        go_wp2_with fail;go_roundw
        case rel=>exact⟨i+1,Gv,Cf,by rw [<- HU2.out,HD.out,CQ5,hr];rfl,HB5.out⟩
        case measure=>simp only [intOf];omega
       | false =>
        go_wp2_with fail;refine (IQ6 x).mono ?_;rintro e w6 ⟨rfl,hb6⟩;have HB6:=hid (dA HB5.out hb6);clear hb6;cases hd:digitB x with
        | true =>
         go_wp2_with fail;go_roundw
         case rel=>exact⟨i+1,Gv,Cf,by rw [<- HU2.out,HD.out,CQ5,hr,hd];rfl,HB6.out⟩
         case measure=>simp only [intOf];omega
        | false =>
         have hT:T=false:=by rw [<- HU2.out,HD.out,CQ5,hr,hd];rfl
         go_wp2_with fail;go_ret;exact⟨by rw [hT];rfl,dA HB4.out HB6.out⟩
      ·have hT:T=true:=by rw [<- HU2.out,show i=L.length from Hi,List.drop_length];rfl
       have i1:¬ (i:Int) < (n:Int):=Cf
       go_wp2_with fail;go_ret;exact⟨by first|rfl|(rw [hT];rfl),dA HB4.out HBR.out⟩
end Ck
