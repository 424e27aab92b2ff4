import Derived.Test.YtfmpphplbdojbaaGreatDoorQBW
import Derived.Lib.OwnKind
import Derived.Test.YtfmpphplbdojbaaGreatDoorQBM
import Derived.Test.YtfmpphplbdojbaaGreatDoorQBV
namespace Go.Proofs.YtfmpphplbdojbaaGreatDoor
open Lib(hid)
set_option linter.all false
set_option maxHeartbeats 40000000
set_option maxRecDepth 100000
namespace Ck
open Go.RowKit
open Rnd (Tx WQ0 cQ1 BQ1 fQ1 tx tki bQ1 TQ0)
variable {w w':World}
theorem UQ7:∀ k:Fin 69,(gD k.val).1<=0->k.val=0∨k.val=2∨k.val=4∨k.val=11∨k.val=12∨k.val=13∨k.val=14∨k.val=20∨k.val=23∨k.val=25∨k.val=26∨k.val=27∨k.val=49:=Ch
theorem qQ8 (k:Nat) (n:Int) (q:List UInt8) (ta ka:Option Addr) (tc kc:Nat) (hk:k < 69) (har:(gD k).1<=0) (hq:q.length<=1000000000) :
  Calls Tryz.prog 41 #[.agg #[.int .u8 (k:Int),.int .i64 n,.string ⟨q.toArray⟩],.slice ta 0 tc,.slice ka 0 kc] w fun e w'=>e=.returned (.string ⟨(TQ0 k q []).toArray⟩)/\Below w.heap.size w w':=by
 have hb:=(J' w.heap.size w).alloc (C' _) (Obj.cells #[.int .u8 (k:Int),.int .i64 n,.string ⟨q.toArray⟩] 46);have hx:=heap_alloc_new w (Obj.cells #[.int .u8 (k:Int),.int .i64 n,.string ⟨q.toArray⟩] 46);obtain⟨Z,hZ⟩:∃ Z,Z=TQ0 k q []:=⟨_,rfl⟩;rw [<- hZ];have HZ:=hid hZ;have hcs:=UQ7 ⟨k,hk⟩ har;simp only [] at hcs;clear hZ har;go_enter Tryz.func41,Tryz.ntmps41;go_upto_region 1 with fail;generalize w.alloc (Obj.cells #[.int .u8 (k:Int),.int .i64 n,.string ⟨q.toArray⟩] 46)=w1 at *;obtain⟨c0,_,c2,_⟩:=uA hx;have HBW:=hid hb;have HALL:Hid (∀ mk:List UInt8,mk.length<=3->Calls Tryz.prog 62 #[.slice ta 0 tc,.string ⟨mk.toArray⟩] w1 fun e w'=>e=.returned (.string ⟨(cQ1 mk []).toArray⟩)/\w'=w1):=hid fun mk _=>dQ6 mk ta tc [] (.inl rfl) Cm (by simp [eQ5])
 have HEACH:Hid (∀ mk:List UInt8,mk=[10]->Calls Tryz.prog 60 #[.slice ta 0 tc,.string ⟨mk.toArray⟩] w1 fun e w'=>e=.returned (.string ⟨(fQ1 []).toArray⟩)/\w'=w1):=hid fun mk hmk=>by subst hmk;exact QQ5 [10] ta tc [] (.inl rfl) Cm (by simp [NQ4])
 have HF:=hid (show NQ4 [10] ([]:List (List UInt8))=[] from rfl);have l1:¬ 9223372036854775807 < q.length+3:=Cf
 have l2:¬ 9223372036854775807 < 1+(cQ1 [44,32] []).length:=by simp [cQ1]
 have l3:¬ 9223372036854775807 < 1+(cQ1 [44,32] []).length+1:=by simp [cQ1]
 clear hx hb;rcases hcs with rfl|rfl|rfl|rfl|rfl|rfl|rfl|rfl|rfl|rfl|rfl|rfl|rfl
 all_goals exact rQ4
theorem GQ7 (k:UInt8) (n:Int) (q:List UInt8) (ta ka:Option Addr) (tc kc:Nat) (ts:List Tx) (hT:DQ5 w ta (ts.map Prod.snd)) (hK:KsB w ka (ts.map Prod.fst)) (hl:ts.length<=1000000) (hk:k.toNat < 69)
  (har:(gD k.toNat).1<=(ts.length:Int)/\((gD k.toNat).2=false->(ts.length:Int)=(gD k.toNat).1)) (hq:q.length<=1000000000) (hS:Rnd.S ts<=1000000000) :
  Calls Tryz.prog 41 #[.agg #[.int .u8 (k.toNat:Int),.int .i64 n,.string ⟨q.toArray⟩],.slice ta ts.length tc,.slice ka ts.length kc] w fun e w'=>e=.returned (.string ⟨(TQ0 k.toNat q ts).toArray⟩)/\Below w.heap.size w w':=by
 by_cases h0:ts=[]
 ·subst h0;exact qQ8 k.toNat n q ta ka tc kc hk har.1 hq
 ·obtain⟨tb,rfl,htb,ht⟩:=hT.resolve_left Hx;obtain⟨kb,rfl,hkb,hkd⟩:=hK.resolve_left Hx;exact JQ7 k.toNat n q tb kb tc kc ts _ rfl htb hkb ht hkd hl (List.length_pos_iff.2 h0) hk har hq hS
end Ck
namespace Ck
open Go.RowKit
open Grd (Pt Fo tB)
open Rnd (Tx txF TQ0)
variable {w w':World}
def WsO (w:World) (a:Option Addr) (L:List (List UInt8)):Prop:=L=[]∨∃ b o,a=some ⟨b,o,none⟩/\b < w.heap.size/\∀ j x,L[j]?=some x->w.cell? ⟨b,o+j,none⟩=some (.string ⟨x.toArray⟩)
def GQ4 (R:List (List UInt8)) (j:Nat):List UInt8:=R.getD j []
def nA (W:World) (lv rv:Value) (o:Nat) (x:Tx) (e:Nat):Prop:=∀ w,Below W.heap.size W w->Calls Tryz.prog 25 #[lv,rv,.int .i64 (o:Int)] w fun r w'=>r=.returned (.tuple #[.string ⟨x.2.toArray⟩,.int .i64 (e:Int)])/\Below w.heap.size w w'
def fA (W:World) (lv rv:Value) (raw:Nat->List UInt8):Fo->Nat->Prop
 | .nil,_=>True
 | .cons p k r,o=>nA W lv rv o (p.k,if raw o=[] then TQ0 p.k.toNat p.w (txF raw k (o+1)) else raw o) (o+1+k.size)/\fA W lv rv raw r (o+1+k.size)
theorem CQ7 {w:World}{B1 B2:Nat}{t1 t2:TypeId}{n1 n2:Nat}{v1 v2:Value}{x1 x2:List Value} (h1:w.ownsRow B1 t1 1 v1 n1 x1) (h2:w.ownsRow B2 t2 1 v2 n2 x2) (hne:t1≠t2):v1.ownBlock=none∨v1.ownBlock≠v2.ownBlock:=by
 cases e1:v1.ownBlock with
 | none=>exact .inl rfl
 | some g =>
  refine .inr fun e=>?_
  obtain⟨c1,f1,k1⟩:=Lib.ownsRow_kind h1 g e1;obtain⟨c2,f2,k2⟩:=Lib.ownsRow_kind h2 g e.symm;rw [k1] at k2;cases k2;exact hne rfl
theorem fQ8 {w:World}{B n:Nat}{a:Option Addr}{c:Nat}{L:List (List UInt8)} (h:w.ownsRow B 9 1 (.slice a n c) n (MQ4 L)) (hn:L.length=n):DQ5 w a L:=by
 by_cases h0:L=[]
 ·exact .inl h0
 ·rcases h.2 with ⟨_,e0⟩|⟨g,cap,cur,e1,_⟩
  ·exact absurd (Z' Cf) h0
  ·cases e1;refine .inr ⟨g,rfl,(h.lt g rfl).2,fun j x hx=>?_⟩;have h1:=h.cells (g:=g) rfl j (.string ⟨x.toArray⟩) (by simp [MQ4,hx]);have hadd:(⟨g,0,none⟩:Addr).add j=⟨g,j,none⟩:=by unfold Addr.add;split <;> simp_all
   rw [hadd] at h1;exact h1
theorem iQ9 {w:World}{B n:Nat}{a:Option Addr}{c:Nat}{L:List UInt8} (h:w.ownsRow B 5 1 (.slice a n c) n (Lib.byteCells L)) (hn:L.length=n):KsB w a L:=by
 by_cases h0:L=[]
 ·exact .inl h0
 ·rcases h.2 with ⟨_,e0⟩|⟨g,cap,cur,e1,_⟩
  ·exact absurd (Z' Cf) h0
  ·cases e1;refine .inr ⟨g,rfl,(h.lt g rfl).2,fun j x hx=>?_⟩;have h1:=h.cells (g:=g) rfl j (.int .u8 (x.toNat:Int)) (by simp [Lib.byteCells,hx]);have hadd:(⟨g,0,none⟩:Addr).add j=⟨g,j,none⟩:=by unfold Addr.add;split <;> simp_all
   rw [hadd] at h1;exact h1
theorem dQ9 {p:Pt} (h:AE p=true):p.k.toNat < 69:=by
 simp only [AE,Bool.and_eq_true,Bool.not_eq_true',decide_eq_false_iff_not] at h;omega
theorem VQ8 {p:Pt}{n:Nat} (h:AE p=true) (hn:(n:Int)=p.n):(gD p.k.toNat).1<=(n:Int)/\((gD p.k.toNat).2=false->(n:Int)=(gD p.k.toNat).1):=by
 simp only [AE,Bool.and_eq_true,Bool.not_eq_true',decide_eq_false_iff_not] at h;refine⟨Cf,fun hm=>?_⟩;have:=h.1.2;rw [hm] at this;simp at this;omega
theorem RQ9 (x:Tx) (r:List Tx):Rnd.S (x::r)=x.2.length+Rnd.S r:=by simp [Rnd.S]
theorem BQ8 {W:World}{lb lo lc:Nat}{ra:Option Addr}{rc:Nat}{l:List Pt}{R:List (List UInt8)} (hl:l.length<=3000) (hlb:lb < W.heap.size)
  (hp:∀ j p,l[j]?=some p->W.cell? ⟨lb,lo+j*3,none⟩=some (.int .u8 (p.k.toNat:Int))/\W.cell? ⟨lb,lo+j*3+1,none⟩=some (.int .i64 p.n)/\W.cell? ⟨lb,lo+j*3+2,none⟩=some (.string ⟨p.w.toArray⟩))
  (hr:WsO W ra R) (hR:R.length=l.length) (p:Pt) (k:Fo) (o:Nat) (hat:l[o]?=some p) (hkl:∀ j q,k.flat[j]?=some q->l[o+1+j]?=some q) (hcount:(k.count:Int)=p.n) (hok:AE p=true) (hpw:p.w.length<=1000000000)
  (hS:Rnd.S (txF (GQ4 R) k (o+1))<=1000000000) (hrw:(GQ4 R o).length<=1000000000) (hK:fA W (.slice (some ⟨lb,lo,none⟩) l.length lc) (.slice ra l.length rc) (GQ4 R) k (o+1)) :
  nA W (.slice (some ⟨lb,lo,none⟩) l.length lc) (.slice ra l.length rc) o (p.k,if GQ4 R o=[] then TQ0 p.k.toNat p.w (txF (GQ4 R) k (o+1)) else GQ4 R o) (o+1+k.size):=by
 intro w hW;have hol:=(Ai.1 hat).1;have hkk:k.count<=3000:=by
  have:=Rnd.count_le k;have h2:=Grd.Fo.flat_len k;by_cases h0:k.size=0
  ·exact Cf
  ·have h3:=(Ai.1 (hkl (k.size - 1) _ (M' Cf))).1;omega
 have HP:Hid (∀ w',Below W.heap.size W w'->∀ j p,l[j]?=some p->w'.cell? ⟨lb,lo+j*3,none⟩=some (.int .u8 (p.k.toNat:Int))/\w'.cell? ⟨lb,lo+j*3+1,none⟩=some (.int .i64 p.n)/\w'.cell? ⟨lb,lo+j*3+2,none⟩=some (.string ⟨p.w.toArray⟩)) :=
  hid fun w' hb j p hj=>⟨(hb.cell (p:=⟨lb,lo+j*3,none⟩) hlb).trans (hp j p hj).1,(hb.cell (p:=⟨lb,lo+j*3+1,none⟩) hlb).trans (hp j p hj).2.1,(hb.cell (p:=⟨lb,lo+j*3+2,none⟩) hlb).trans (hp j p hj).2.2⟩
 obtain⟨X,hX⟩:∃ X,X=GQ4 R o:=⟨_,rfl⟩;have HR:Hid (∃ b ro,ra=some ⟨b,ro,none⟩/\∀ w',Below W.heap.size W w'->w'.cell? ⟨b,ro+o,none⟩=some (.string ⟨X.toArray⟩)):=hid (by
  rcases hr with h|⟨b,ro,h1,h2,h3⟩
  ·rw [h] at hR;simp at hR;omega
  ·refine⟨b,ro,h1,fun w' hb=>(hb.cell (p:=⟨b,ro+o,none⟩) h2).trans (h3 o X ?_)⟩;rw [hX,GQ4,List.getD_eq_getElem?_getD,M' Cf];rfl)
 rw [<- hX];obtain⟨ts,hts⟩:∃ ts,ts=txF (GQ4 R) k (o+1):=⟨_,rfl⟩;rw [<- hts] at hS ⊢;have htl:ts.length=k.count:=by rw [hts];exact Rnd.KQ1 (GQ4 R) k (o+1)
 obtain⟨E,hE⟩:∃ E,E=o+1+k.size:=⟨_,rfl⟩;rw [<- hE];obtain⟨K,hKc⟩:∃ K,K=k.count:=⟨_,rfl⟩;rw [<- hKc] at hcount htl hkk;obtain⟨ll,hll⟩:∃ ll,ll=l.length:=⟨_,rfl⟩;rw [<- hll] at hl hol hK ⊢;have HA:=hid (And.intro hat (And.intro hkl (And.intro hll (And.intro hts (And.intro hE hKc)))));have HK0:=hid hK;have HW:=hid hW;have HS:=hid (And.intro hS (And.intro hpw (And.intro hrw hok)));have HTL:=hid htl;have HC:=hid hcount;obtain⟨iN,hiN,hz0,hz1,hz2⟩:=info_parts Tryz.infoU8;obtain⟨iS,hiS,hy0,hy1,hy2⟩:=info_parts Tryz.infoStr;have HI:=hid (And.intro hiN (And.intro hz0 (And.intro hz1 (And.intro hz2 (And.intro hiS (And.intro hy0 (And.intro hy1 hy2)))))));clear hp hr hR hX hts hE hKc hll hat hkl hK hW hS hpw hrw hok htl hcount hiN hz0 hz1 hz2 hiS hy0 hy1 hy2;go_enter Tryz.func25,Tryz.ntmps25;go_wp2_with fail
 go_loopw [8,9,10,11] (fun u8 u9 u10 u11 wr=>∃ (dn:List Tx) (r:Fo) (at_ nn:Nat),u10=.int .i64 (at_:Int)/\u11=.int .i64 (nn:Int)/\nn=dn.length/\wr.ownsRow w.heap.size 9 1 u8 nn (MQ4 (dn.map Prod.snd))/\wr.ownsRow w.heap.size 5 1 u9 nn (Lib.byteCells (dn.map Prod.fst)) /\
  fA W (.slice (some ⟨lb,lo,none⟩) ll lc) (.slice ra ll rc) (GQ4 R) r at_/\at_+r.size=E/\dn++txF (GQ4 R) r at_=ts/\nn+r.count=K/\(∀ j q,r.flat[j]?=some q->l[at_+j]?=some q)/\Below w.heap.size w wr) (fun _ _ _ u _=>(K - intOf u).toNat)
 case atStart=>exact⟨[],k,o+1,0,Gv,rfl,rfl,As _ _ _ _,As _ _ _ _,HK0.out,HA.out.2.2.2.2.1.symm,HA.out.2.2.2.1.symm,by have:=HA.out.2.2.2.2.2;omega,HA.out.2.1,J' _ _⟩
 case round =>
  obtain⟨dn,r,at_,nn,rfl,rfl,hnn,hot,hok,hTr,hsz,htx,hnk,hfl,hbr⟩:=hrel;have HBR:=hid hbr;have HWR:=hid (HW.out.trans (hbr.mono HW.out.size));obtain⟨p0,p1,p2⟩:=HP.out wr HWR.out o p HA.out.1;have HPP:=hid (And.intro p0 p2);have o0:(0:Int)<=(o:Int):=Cf
  have o1:(o:Int) < (ll:Int):=Cf
  have HOT:=hid hot;have HOK:=hid hok;have HNN:=hid hnn;have HTX:=hid htx;have HFL:=hid hfl;have HSZ:=hid hsz;have HTR:=hid hTr;have hnK:nn<=3000:=Cf
  clear hbr hot hok hnn htx hfl hsz hTr p0 p2;cases r with
  | nil =>
   simp only [Fo.count,Nat.add_zero] at hnk;subst hnk;have hlt:¬ (nn:Int) < p.n:=by have:=HC.out;omega
   have hE2:at_=E:=by have:=HSZ.out;simpa [Fo.size] using this
   have htx:dn=ts:=by have:=HTX.out;simpa [txF] using this
   obtain⟨rb,ro,hra,hrc⟩:=HR.out;subst hra;have r0:=hrc wr HWR.out;obtain⟨p0,p2⟩:=HPP.out;have ll0:(0:Int) < (ll:Int):=Cf
   obtain⟨ta,tc,rfl⟩:=Grd.ID HOT.out;obtain⟨ka,kc,rfl⟩:=Grd.ID HOK.out;subst hE2;subst htx;have hnt:=HNN.out;have HROW:Hid (Calls Tryz.prog 41 #[.agg #[.int .u8 (p.k.toNat:Int),.int .i64 p.n,.string ⟨p.w.toArray⟩],.slice ta nn tc,.slice ka nn kc] wr fun e w'=>e=.returned (.string ⟨(TQ0 p.k.toNat p.w dn).toArray⟩)/\Below wr.heap.size wr w'):=hid (by
    have h:=GQ7 (w:=wr) p.k p.n p.w ta ka tc kc dn (fQ8 HOT.out (by rw [List.length_map,hnt])) (iQ9 HOK.out (by rw [List.length_map,hnt])) Cf (dQ9 HS.out.2.2.2) (VQ8 HS.out.2.2.2 (by rw [<- hnt];exact HC.out)) HS.out.2.1 HS.out.1;rw [<- hnt] at h;exact h)
   clear hrc hnt;cases hx:(X==[]) with
   | false =>
    have hX:¬ X=[]:=by simpa using hx
    have HX:=hid hX;clear hX;go_wp2_with fail;go_ret2;exact⟨by simp only [if_neg HX.out];rfl,HBR.out⟩
   | true =>
    have hX:X=[]:=by simpa using hx
    have HX:=hid hX;clear hX;go_wp2_with fail;refine HROW.out.mono ?_;rintro e w3 ⟨rfl,hb3⟩;go_wp2_with fail;go_ret2;exact⟨by simp only [if_pos HX.out];rfl,dA HBR.out hb3⟩
  | cons q k' r' =>
   simp only [Fo.count] at hnk;have hlt:(nn:Int) < p.n:=by have:=HC.out;omega
   have hq:=HFL.out 0 q rfl;rw [Nat.add_zero] at hq;have hal:at_ < ll:=by have:=HA.out.2.2.1;have:=(Ai.1 hq).1;omega
   obtain⟨q0,_,_⟩:=HP.out wr HWR.out at_ q hq;have a0:(0:Int)<=(at_:Int):=Cf
   have a1:(at_:Int) < (ll:Int):=Cf
   obtain⟨hiN,hz0,hz1,hz2,hiS,hy0,hy1,hy2⟩:=HI.out;have hown:=HOK.out;have hwz:=HBR.out.size;obtain⟨yt,hyt⟩:∃ yt,yt=(if GQ4 R at_=[] then TQ0 q.k.toNat q.w (txF (GQ4 R) k' (at_+1)) else GQ4 R at_):=⟨_,rfl⟩;have HT1:Hid (nA W (.slice (some ⟨lb,lo,none⟩) ll lc) (.slice ra ll rc) at_ (q.k,yt) (at_+1+k'.size)):=hid (by rw [hyt];exact HTR.out.1);have HY:=hid hyt;clear hq hal hyt;go_wp2_with (at_builtin;refine wpList_append_lies _ rfl (.tmp 25) (.tmp 31) 40 rfl w.heap.size 5 iN _ 1 1 Tryz.underBs hiN hz0 hz1 hz2 rfl Cf u9 nn (Lib.byteCells (dn.map Prod.fst)) rfl (hown.alloc _) ⟨wr.heap.size,0,none⟩ 1 1 [.int .u8 (q.k.toNat:Int)] rfl rfl (Aq (cs:=#[.int .u8 (q.k.toNat:Int)]) (t:=5) (fr:=(0,0)) (heap_alloc_new wr _)) Eb Cf Cu Cf Cn (wr.heap.size+1) Cm ?_);intro gg cap w3 hown3 hgrow3 hat3 hlt3;have hb3:Below w.heap.size w w3:=((HBR.out.alloc Cf _).grown hgrow3 Cn (fun k hk=>(hown.lt k hk).1));have hot3:=(HOT.out.alloc (.cells #[.int .u8 (q.k.toNat:Int)] 5)).kept hgrow3 (CQ7 HOT.out hown Ch);have hown3:w3.ownsRow w.heap.size 5 1 (Value.slice (some ⟨gg,0,none⟩) (nn+1) cap) (nn+1) (Lib.byteCells ((dn++[(q.k,yt)]).map Prod.fst)):=by
    rw [List.map_append];unfold Lib.byteCells;rw [List.map_append];exact hown3
   have HB3:=hid hb3;have HOT3:=hid hot3;have HOK3:=hid hown3;have HC3:=hid (HT1.out w3 (HW.out.trans (hb3.mono HW.out.size)));obtain⟨v3,hv3⟩:∃ v3,v3=Value.slice (some ⟨gg,0,none⟩) (nn+1) cap:=⟨_,rfl⟩;rw [<- hv3] at HOK3 ⊢;clear hb3 hot3 hown3 hgrow3 hat3 hlt3 hown hwz hv3 p1 q0;go_wp2_with fail;refine HC3.out.mono ?_;rintro e w4 ⟨rfl,hb4⟩;have HB4:=hid (dA HB3.out hb4);have hot4:=LD HOT3.out hb4;have HOK4:=hid (LD HOK3.out hb4);have hwz:=HB4.out.size;clear hb4;go_wp2_with (at_builtin;refine wpList_append_lies _ rfl (.tmp 40) (.tmp 42) 29 rfl w.heap.size 9 iS _ 1 16 Tryz.underlying29 hiS hy0 hy1 hy2 rfl Cf u8 nn (MQ4 (dn.map Prod.snd)) rfl (hot4.alloc _) ⟨w4.heap.size,0,none⟩ 1 1 [.string ⟨yt.toArray⟩] rfl rfl (Aq (cs:=#[.string ⟨yt.toArray⟩]) (t:=9) (fr:=(0,0)) (heap_alloc_new w4 _)) Eb Cf Cu Cf Cn (w4.heap.size+1) Cm ?_);intro gg5 cap5 w5 hown5 hgrow5 hat5 hlt5;have hb5:Below w.heap.size w w5:=((HB4.out.alloc Cf _).grown hgrow5 Cn (fun k hk=>(hot4.lt k hk).1));have hok5:=(HOK4.out.alloc (.cells #[.string ⟨yt.toArray⟩] 9)).kept hgrow5 (CQ7 HOK4.out hot4 Ch);have hown5:w5.ownsRow w.heap.size 9 1 (Value.slice (some ⟨gg5,0,none⟩) (nn+1) cap5) (nn+1) (MQ4 ((dn++[(q.k,yt)]).map Prod.snd)):=by
    rw [List.map_append];unfold MQ4;rw [List.map_append];exact hown5
   have HB5:=hid hb5;have HOT5:=hid hown5;have HOK5:=hid hok5;obtain⟨v5,hv5⟩:∃ v5,v5=Value.slice (some ⟨gg5,0,none⟩) (nn+1) cap5:=⟨_,rfl⟩;rw [<- hv5] at HOT5 ⊢;clear hb5 hok5 hown5 hgrow5 hat5 hlt5 hot4 hwz hv5 hiN hz0 hz1 hz2 hiS hy0 hy1 hy2;go_wp2_with fail;go_roundw
   case rel =>
    refine⟨dn++[(q.k,yt)],r',at_+1+k'.size,nn+1,rfl,Gv,by rw [O',<- HNN.out];rfl,HOT5.out,HOK5.out,HTR.out.2,by have:=HSZ.out;simp only [Fo.size] at this;omega,?_,Cf,fun j x hx=>?_,HB5.out⟩
    ·rw [<- HTX.out,HY.out,List.append_assoc];rfl
    ·have h:=HFL.out (1+k'.size+j) x (by
      simp only [Fo.flat];rw [show 1+k'.size+j=(k'.size+j)+1 by omega,F',Au (by rw [Grd.Fo.flat_len];omega),Grd.Fo.flat_len,Nat.add_sub_cancel_left];exact hx)
     rw [<- h];congr 1;omega
   case measure=>simp only [intOf];omega
end Ck
namespace Ck
open Go.RowKit
open Grd (Pt Fo tB)
open Rnd (Tx txF TQ0 pQ2 DQ2 AQ2 EQ2 tQ2 foL)
variable {w w':World}
theorem bQ8 (p:Pt) (k r:List Pt):EQ2 (p::(k++r))=p.w.length+43+EQ2 k+EQ2 r:=by
 simp only [EQ2,List.map_cons,List.sum_cons,List.map_append,List.sum_append];omega
theorem MQ7 (raw:Nat->List UInt8) (o m n:Nat):tQ2 raw o (1+m+n)=(raw o).length+tQ2 raw (o+1) m+tQ2 raw (o+1+m) n:=by
 rw [Rnd.PQ2,show 1+m=m+1 by omega,tQ2,show o+(m+1)=o+1+m by omega]
theorem uQ5 {W:World}{lb lo lc:Nat}{ra:Option Addr}{rc:Nat}{l:List Pt}{R:List (List UInt8)} (hl:l.length<=3000) (hlb:lb < W.heap.size)
  (hp:∀ j p,l[j]?=some p->W.cell? ⟨lb,lo+j*3,none⟩=some (.int .u8 (p.k.toNat:Int))/\W.cell? ⟨lb,lo+j*3+1,none⟩=some (.int .i64 p.n)/\W.cell? ⟨lb,lo+j*3+2,none⟩=some (.string ⟨p.w.toArray⟩))
  (hr:WsO W ra R) (hR:R.length=l.length) (hok:∀ p∈l,AE p=true):∀ (f:Fo) (o:Nat),f.good->(∀ j q,f.flat[j]?=some q->l[o+j]?=some q)->EQ2 f.flat+tQ2 (GQ4 R) o f.size<=1000000000->fA W (.slice (some ⟨lb,lo,none⟩) l.length lc) (.slice ra l.length rc) (GQ4 R) f o
 | .nil,_,_,_,_=>trivial
 | .cons p k r,o,⟨g1,g2,g3⟩,hf,hs=>by
  simp only [Fo.flat,Fo.size] at hf hs;rw [bQ8,MQ7] at hs;have hp0:=hf 0 p rfl;rw [Nat.add_zero] at hp0;have hk:∀ j q,k.flat[j]?=some q->l[o+1+j]?=some q:=fun j q h=>by
   have hj:=(Ai.1 h).1;have h2:=hf (j+1) q (by rw [F',List.getElem?_append_left hj];exact h);rw [<- h2];congr 1;omega
  have hq:∀ j q,r.flat[j]?=some q->l[o+1+k.size+j]?=some q:=fun j q h=>by
   have h2:=hf (k.size+j+1) q (by rw [F',Au (by rw [Grd.Fo.flat_len];omega),Grd.Fo.flat_len,Nat.add_sub_cancel_left];exact h);rw [<- h2];congr 1;omega
  have h1:=uQ5 (lc:=lc) (rc:=rc) hl hlb hp hr hR hok k (o+1) g2 hk Cf;have h2:=uQ5 (lc:=lc) (rc:=rc) hl hlb hp hr hR hok r (o+1+k.size) g3 hq Cf;have h3:=Rnd.TQ2 (GQ4 R) k (o+1);exact⟨BQ8 hl hlb hp hr hR p k o hp0 hk g1 (hok p (List.mem_of_getElem? hp0)) Cf Cf Cf h1,h2⟩
def yQ9 (l:List Pt) (R:List (List UInt8)):Value:=if fF l then (if R.length=l.length then AQ2 (pQ2 l (GQ4 R)) else .tuple #[.string ⟨#[]⟩,.int .i64 1]) else .tuple #[.string ⟨#[]⟩,.int .i64 8]
theorem JQ6 (a ra:Option Addr) (cap rc:Nat) (l:List Pt) (R:List (List UInt8)) (hl:l.length<=3000) (hp:tB w a l) (hr:WsO w ra R) (hw:∀ p∈l,p.w.length<=1048576) (hs:R.length=l.length->EQ2 l+tQ2 (GQ4 R) 0 l.length<=1000000000) :
  Calls Tryz.prog 13 #[.slice a l.length cap,.slice ra R.length rc] w fun e w'=>e=.returned (yQ9 l R)/\Below w.heap.size w w':=by
 have HC:=hid (QQ6 a cap l hl hp hw);unfold yQ9;cases hc:fF l with
 | false =>
  rw [hc] at HC;clear hp hr hw hs hc;go_enter Tryz.func13,Tryz.ntmps13;go_wp2_with fail;refine HC.out.mono ?_;rintro e w2 ⟨rfl,hb⟩;simp only [if_neg Bool.false_ne_true];go_wp2_with fail;go_ret2;exact⟨rfl,hb⟩
 | true =>
  rw [hc] at HC;by_cases hR:R.length=l.length
  ·rw [if_pos rfl,if_pos hR,hR];have hc2:Grd.DG (l.map Pt.n)=true/\∀ p∈l,AE p=true:=by simpa [fF] using hc
   obtain⟨lb,lo,rfl,hlb,hlp⟩:=hp.resolve_left (by rintro rfl;exact absurd hc Ch);obtain⟨f1,f2,f3⟩:=Rnd.LQ2 hc2.1;have hsz:(foL l).size=l.length:=by rw [<- Grd.Fo.flat_len,f1]
   have HT:Hid (∀ w1,Below w.heap.size w w1->Calls Tryz.prog 25 #[.slice (some ⟨lb,lo,none⟩) l.length cap,.slice ra l.length rc,.int .i64 0] w1 fun e w'=>e=.returned (.tuple #[.string ⟨(pQ2 l (GQ4 R)).toArray⟩,.int .i64 (l.length:Int)])/\Below w1.heap.size w1 w'):=hid fun w1 hb1=>by
    have hT:=uQ5 (lc:=cap) (rc:=rc) hl hlb hlp hr hR hc2.2 (foL l) 0 f2 (fun j q h=>by rw [Nat.zero_add,<- f1];exact h) (by rw [f1,hsz];exact hs hR);unfold pQ2;rw [<- hsz];cases hf:foL l with
    | nil=>rw [hf] at f3;simp [Fo.count] at f3
    | cons p k r =>
     rw [hf] at hT f3 hsz;cases r with
     | cons _ _ _=>simp [Fo.count] at f3
     | nil =>
      have h:=hT.1 w1 hb1;simp only [Fo.size,Nat.add_zero] at hsz ⊢;rw [hsz];rw [Nat.zero_add,hsz] at h;exact h
   have HO:Hid (AQ2 (pQ2 l (GQ4 R))=AQ2 (pQ2 l (GQ4 R))):=hid rfl;clear hp hr hw hs hc hR hc2 hlp f1 f2 f3 hsz;unfold AQ2;generalize pQ2 l (GQ4 R)=S at *;obtain⟨n,hn⟩:∃ n,n=l.length:=⟨_,rfl⟩;rw [<- hn] at HT HC ⊢;clear hn hl HO;obtain⟨S1,hS1⟩:∃ S1,S1=if 65536 < S.length then [] else S:=⟨_,rfl⟩
   obtain⟨M1,hM1⟩:∃ M1:Int,M1=if 65536 < S.length then 2 else 0:=⟨_,rfl⟩
   rw [<- hS1,<- hM1];have HSM:=hid (And.intro hS1 hM1);clear hS1 hM1;go_enter Tryz.func13,Tryz.ntmps13;go_wp2_with fail;refine HC.out.mono ?_;rintro e w2 ⟨rfl,hb⟩;simp only [if_true];go_wp2_with fail;refine (HT.out w2 hb).mono ?_;rintro e w3 ⟨rfl,hb3⟩;have HB:=hid (dA hb hb3);clear hb hb3;by_cases hbig:65536 < S.length
   ·have i1:(65536:Int) < (S.length:Int):=by omega
    obtain⟨h1,h2⟩:=HSM.out;rw [if_pos hbig] at h1 h2;have H12:=hid (And.intro h1 h2);clear h1 h2;go_wp2_with fail;go_ret2;exact⟨by rw [H12.out.1,H12.out.2];rfl,HB.out⟩
   ·have i1:¬ (65536:Int) < (S.length:Int):=by omega
    obtain⟨h1,h2⟩:=HSM.out;rw [if_neg hbig] at h1 h2;have H12:=hid (And.intro h1 h2);clear h1 h2;go_wp2_with fail;go_ret2;exact⟨by rw [H12.out.1,H12.out.2];rfl,HB.out⟩
  ·rw [if_pos rfl,if_neg hR];have i1:((R.length:Int) != (l.length:Int))=true:=by simp;omega
   clear hp hr hw hs hc hR;generalize R.length=rl at *;generalize l.length=ll at *;go_enter Tryz.func13,Tryz.ntmps13;go_wp2_with fail;refine HC.out.mono ?_;rintro e w2 ⟨rfl,hb⟩;simp only [if_true];go_wp2_with fail;go_ret2;exact⟨rfl,hb⟩
theorem MQ6 (n:Nat):GQ4 (List.replicate n [])=fun _=>[]:=by
 funext j;unfold GQ4;rw [List.getD_eq_getElem?_getD,List.getElem?_replicate];split <;> rfl
theorem eQ7 (a:Option Addr) (cap:Nat) (l:List Pt) (hl:l.length<=3000) (hp:tB w a l) (hw:∀ p∈l,p.w.length<=1048576) (hs:EQ2 l<=1000000000) :
  Calls Tryz.prog 11 #[.slice a l.length cap] w fun e w'=>e=.returned (DQ2 l fun _=>[])/\Below w.heap.size w w':=by
 obtain⟨i0,hi,hz0,hz1,hz2⟩:=info_parts Tryz.infoStr;have HM:Hid (∀ w1,Below w.heap.size w w1->∀ ra,WsO w1 ra (List.replicate l.length [])->Calls Tryz.prog 13 #[.slice a l.length cap,.slice ra l.length l.length] w1 fun e w'=>e=.returned (DQ2 l fun _=>[])/\Below w1.heap.size w1 w'):=hid fun w1 hb ra hr=>by
  have h:=JQ6 (w:=w1) a ra cap l.length l (List.replicate l.length []) hl (hp.later hb) hr hw (fun _=>by rw [MQ6,Rnd.MQ2];exact hs);rw [List.length_replicate] at h;refine h.mono fun e w' ⟨he,hb⟩=>⟨?_,hb⟩
  rw [he];unfold yQ9 DQ2;rw [List.length_replicate,if_pos rfl,MQ6]
 obtain⟨n,hn⟩:∃ n,n=l.length:=⟨_,rfl⟩;rw [<- hn] at HM hl ⊢;clear hp hw hs hn;go_enter Tryz.func11,Tryz.ntmps11;go_wp2_with (refine wpList_make_full _ rfl _ _ 29 rfl w.heap.size 9 i0 (.string ⟨#[]⟩) 1 Tryz.underlying29 hi hz0 hz1 .i64 .i64 n n n rfl rfl rfl rfl Jg Cu (C' _) ?_;intro w5 hown hgrow);have hb5:=(J' w.heap.size w).grown hgrow (C' _) (fun k h=>C4);rw [show (madeCells (Value.string ⟨#[]⟩).cells (n*1)).toList=MQ4 (List.replicate n []) by rw [show (Value.string ⟨#[]⟩).cells=#[Value.string ⟨#[]⟩] from rfl,toList_madeCells_one];simp [MQ4]] at hown;have hws:=fQ8 hown Cm;have hwo:WsO w5 (some ⟨w.heap.size,0,none⟩) (List.replicate n []):=by
  rcases hws with h|⟨b,h1,h2,h3⟩
  ·exact .inl h
  ·exact .inr ⟨b,0,h1,h2,fun j x hx=>by rw [Nat.zero_add];exact h3 j x hx⟩
 have HM5:=hid (HM.out w5 hb5 _ hwo);have HB5:=hid hb5;clear hown hgrow hws hwo hb5;refine HM5.out.mono ?_;rintro e w6 ⟨rfl,hb6⟩;obtain⟨S,er,hV⟩:∃ (S:List UInt8) (er:Int),DQ2 l (fun _=>[])=.tuple #[.string ⟨S.toArray⟩,.int .i64 er]:=by
  unfold DQ2 AQ2;split
  ·exact⟨_,_,rfl⟩
  ·exact⟨[],8,rfl⟩
 rw [hV];have HV:=hid hV;clear hV;have HB:=hid (dA HB5.out hb6);clear hb6;go_wp2_with fail;go_ret2;exact⟨by rw [HV.out];rfl,HB.out⟩
end Ck
namespace Ck
open Go.RowKit
open Grd (Pt Fo tB)
variable {w w':World}
def RQ4 (l:List Pt):Nat:=(l.map fun p=>p.w.length).sum
def aQ5 (R:List (List UInt8)):Nat:=(R.map List.length).sum
theorem fQ6 {l:List Pt}{i:Nat}{p:Pt} (h:l[i]?=some p):RQ4 (l.take (i+1))=RQ4 (l.take i)+p.w.length:=by
 unfold RQ4;rw [List.take_add_one,h];simp
theorem OQ7 {l:List (List UInt8)}{i:Nat}{p:List UInt8} (h:l[i]?=some p):aQ5 (l.take (i+1))=aQ5 (l.take i)+p.length:=by
 unfold aQ5;rw [List.take_add_one,h];simp
theorem nQ6 (l:List Pt) (i:Nat):RQ4 (l.take i)<=RQ4 l:=by
 have h:RQ4 l=RQ4 (l.take i)+RQ4 (l.drop i):=by unfold RQ4;rw [<- List.sum_append,<- List.map_append,List.take_append_drop]
 omega
theorem TQ7 (l:List (List UInt8)) (i:Nat):aQ5 (l.take i)<=aQ5 l:=by
 have h:aQ5 l=aQ5 (l.take i)+aQ5 (l.drop i):=by unfold aQ5;rw [<- List.sum_append,<- List.map_append,List.take_append_drop]
 omega
theorem vQ9 (l:List Pt):Rnd.EQ2 l=RQ4 l+43*l.length:=by
 induction l with
 | nil=>rfl
 | cons p r ih=>simp only [Rnd.EQ2,RQ4,List.map_cons,List.sum_cons,Ab] at ih ⊢;omega
theorem BQ9 (R:List (List UInt8)):∀ (n o:Nat),o+n=R.length->Rnd.tQ2 (GQ4 R) o n=aQ5 (R.drop o)
 | 0,o,h=>by rw [List.drop_of_length_le Cf];rfl
 | n+1,o,h=>by
  rw [Rnd.tQ2,BQ9 R n (o+1) Cf,An (show o < R.length by omega)];simp only [aQ5,List.map_cons,List.sum_cons,GQ4];rw [List.getD_eq_getElem?_getD,M' Cf];rfl
theorem KQ9 {l:List Pt}{p:Pt} (h:p∈l):p.w.length<=RQ4 l:=by
 obtain⟨i,hi⟩:=List.getElem?_of_mem h;have:=fQ6 hi;have:=nQ6 l (i+1);omega
theorem rQ7 (a ra:Option Addr) (cap rc:Nat) (l:List Pt) (R:List (List UInt8)) (hp:tB w a l) (hr:WsO w ra R) (hl:l.length<=140737488351232) (hR:R.length<=140737488351232) (hw:∀ p∈l,p.w.length<=140737488351232) (hrw:∀ x∈R,x.length<=140737488351232) :
  Calls Tryz.prog 8 #[.slice a l.length cap,.slice ra R.length rc] w fun e w'=>e=.returned (.bool (decide (1500 < l.length+R.length+RQ4 l+aQ5 R)))/\w'=w:=by
 obtain⟨T,hT⟩:∃ T,T=decide (1500 < l.length+R.length+RQ4 l+aQ5 R):=⟨_,rfl⟩;rw [<- hT];obtain⟨ll,hll⟩:∃ ll,ll=l.length:=⟨_,rfl⟩;obtain⟨rl,hrl⟩:∃ rl,rl=R.length:=⟨_,rfl⟩;rw [<- hll,<- hrl] at hT ⊢;rw [<- hll] at hl;rw [<- hrl] at hR;have HT:=hid (And.intro hT (And.intro hll hrl));have HP:=hid hp;have HQ:=hid hr;clear hT hll hrl hp hr;go_enter Tryz.func8,Tryz.ntmps8;go_wp2_with fail
 go_loop [5,6] (fun u5 u6=>∃ (i n:Nat),u6=.int .i64 (i:Int)/\u5=.int .i64 (n:Int)/\i<=ll/\n=ll+rl+RQ4 (l.take i)/\n<=422212465053696) (fun _ u=>ll - (intOf u).toNat)
 case atStart=>exact⟨0,ll+rl,rfl,Gv,Cf,by simp [RQ4],Cf⟩
 case round =>
  obtain⟨i,n,rfl,rfl,hi,hn,hb⟩:=hrel;have HN:=hid hn;clear hn;have hexit:∀ (hx:¬ (i < ll/\n<=1500)),(n<=1500->n=ll+rl+RQ4 l)/\n<=ll+rl+RQ4 l:=fun hx=>by
   have:=nQ6 l i;have h2:=HN.out;refine⟨fun h15=>?_,Cf⟩;have:i=l.length:=by have:=HT.out.2.1;omega
   rw [this,List.take_length] at h2;exact h2
  have HX:=hid hexit;clear hexit;by_cases hlt:i < ll
  ·have i0:(0:Int)<=(i:Int):=by omega
   have i1:(i:Int) < (ll:Int):=Cf
   by_cases h15:n<=1500
   ·have j1:(n:Int)<=1500:=by omega
    have hil:i < l.length:=by have:=HT.out.2.1;omega
    obtain⟨p,hpi⟩:∃ p,l[i]?=some p:=⟨_,M' hil⟩;obtain⟨b,off,rfl,hbl,hc⟩:=HP.out.resolve_left (by rintro rfl;simp at hil);have c2:=(hc i p hpi).2.2;have hpw:=hw p (List.mem_of_getElem? hpi);have HS:=hid (fQ6 hpi);generalize p.w=pw at *;clear hc hpi hil;go_wp2_with fail
    go_round
    case rel=>exact⟨i+1,n+pw.length,Gv,Gv,Cf,by have:=HS.out;have:=HN.out;omega,Cf⟩
    case measure=>simp [intOf];omega
   ·have j1:¬ (n:Int)<=1500:=by omega
    have HX2:=hid (HX.out Cf);clear HX hlt;have HF:Hid (decide (1500 < ll+rl+RQ4 l+aQ5 R)=true):=hid (decide_eq_true (by have:=HX2.out.2;omega));clear h15 HX2;by_cases hr0:(0:Int) < (rl:Int)
    all_goals
     go_wp2_with fail;refine wp_loop_rounds 1 ?_;rw [rounds_succ];go_wp2_with fail;go_ret;exact⟨by rw [HT.out.1,HF.out];rfl,rfl⟩
  ·have i1:¬ (i:Int) < (ll:Int):=by omega
   have HX2:=hid (HX.out Cf);clear HX hlt;go_wp2_with fail;clear i1
   go_loop [5,7] (fun u5 u7=>∃ (j n:Nat),u7=.int .i64 (j:Int)/\u5=.int .i64 (n:Int)/\j<=rl/\(n<=1500->n=ll+rl+RQ4 l+aQ5 (R.take j))/\n<=ll+rl+RQ4 l+aQ5 R/\n<=422212465053696) (fun _ u=>rl - (intOf u).toNat)
   case atStart=>exact⟨0,n,rfl,rfl,Cf,fun h=>by have:=HX2.out.1 h;simp [aQ5];omega,by have:=HX2.out.2;omega,hb⟩
   case round =>
    obtain⟨j,n2,rfl,rfl,hj,hn2,hle,hb2⟩:=hrel;have HN2:=hid (And.intro hn2 hle);clear hn2 hle;by_cases hjlt:j < rl
    ·have i0:(0:Int)<=(j:Int):=by omega
     have i1:(j:Int) < (rl:Int):=Cf
     by_cases h15:n2<=1500
     ·have j1:(n2:Int)<=1500:=by omega
      have hil:j < R.length:=by have:=HT.out.2.2;omega
      obtain⟨x,hxi⟩:∃ x,R[j]?=some x:=⟨_,M' hil⟩;obtain⟨b,off,rfl,hbl,hc⟩:=HQ.out.resolve_left (by rintro rfl;simp at hil);have c2:=hc j x hxi;have hxw:=hrw x (List.mem_of_getElem? hxi);have HS:=hid (OQ7 hxi);have HS2:=hid (TQ7 R (j+1));have HE:=hid (HN2.out.1 h15);clear hc hxi hil;go_wp2_with fail
      go_round
      case rel=>exact⟨j+1,n2+x.length,Gv,Gv,Cf,fun _=>by have:=HS.out;have:=HE.out;omega,by have:=HS.out;have:=HE.out;have:=HS2.out;omega,Cf⟩
      case measure=>simp [intOf];omega
     ·have j1:¬ (n2:Int)<=1500:=by omega
      have HF:Hid (decide (1500 < ll+rl+RQ4 l+aQ5 R)=true):=hid (decide_eq_true (by have:=HN2.out.2;omega));clear h15;go_wp2_with fail;go_ret;exact⟨by rw [HT.out.1,HF.out];rfl,rfl⟩
    ·have i1:¬ (j:Int) < (rl:Int):=by omega
     have hjr:R.take j=R:=by rw [Ar];have:=HT.out.2.2;omega
     have HE:Hid (decide (1500 < ll+rl+RQ4 l+aQ5 R)=decide ((1500:Int) < (n2:Int))):=hid (by
      have h1:=HN2.out.1;have h2:=HN2.out.2;rw [hjr] at h1;by_cases h:n2<=1500
      ·have:=h1 h;rw [decide_eq_false Cf,decide_eq_false Cf]
      ·rw [decide_eq_true Cf,decide_eq_true Cf])
     clear hjr;go_wp2_with fail;go_ret;exact⟨by rw [HT.out.1,HE.out];rfl,rfl⟩
end Ck
