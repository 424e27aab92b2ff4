import Derived.Test.YtfmpphplbdojbaaGreatDoorQBK
namespace Go.Proofs.YtfmpphplbdojbaaGreatDoor
open Lib(hid)
set_option linter.all false
set_option maxHeartbeats 40000000
set_option maxRecDepth 100000
namespace Rnd
open Go.RowKit
open Grd (Pt Fo)
variable {w w':World}{B b:Nat}{lv rv ev:Value}{l:List Pt}{raw:Nat->List UInt8}{E:List Nat}{bs t:List UInt8}{c:Nat}
attribute [local simp] ByteArray.mk_append_mk
theorem GQ1 (K:Nat) (n:Int) (q:List UInt8) (a:Option Addr) (cap:Nat) {ks:List Nat}{ts:List Tx} (hK:KL l raw E lv rv ev ks ts) (hcap:ks.length<=cap) (hA:YQ0 b a ks w) (H:St B b l raw E lv rv ev bs w) (hn:bs.length+(TQ0 K q ts).length<=1099511627776) (hql:q.length<=1048576) (hkl:ks.length<=100000000) (har:(gD K).1<=(ks.length:Int)/\((gD K).2=false->(ks.length:Int)=(gD K).1)) (hKK:K=26∨K=27∨K=28∨K=29∨K=30∨K=31∨K=32∨K=33∨K=34∨K=35∨K=36∨K=37∨K=38∨K=39∨K=40∨K=41∨K=42∨K=43∨K=44∨K=45∨K=46∨K=47∨K=48) :
  Calls Tryz.prog 54 #[.pointer (some ⟨b,0,none⟩),.agg #[.int .u8 (K:Int),.int .i64 n,.string ⟨q.toArray⟩],.slice a ks.length cap] w fun e w'=>e=.returned (.tuple #[])/\Stp B b l raw E lv rv ev (bs++TQ0 K q ts) w w':=by
 have hlt:=hK.len;obtain⟨Z,hZ⟩:∃ Z,Z=TQ0 K q ts:=⟨_,rfl⟩;rw [<- hZ] at hn ⊢;have HZ:=hid hZ;have HN:=hid hn;have HK:=hid hK;have HH:=hid H;have HA:=hid hA;have HR:=hid har;replace hKK:=hid hKK;have hb:=(J' w.heap.size w).alloc (C' _) (Obj.cells #[.int .u8 (K:Int),.int .i64 n,.string ⟨q.toArray⟩] 46);have hx:Box b w.heap.size (K:Int) q (w.alloc (Obj.cells #[.int .u8 (K:Int),.int .i64 n,.string ⟨q.toArray⟩] 46)):=⟨Ez,n,heap_alloc_new w _⟩;have HB:=hid (And.intro hb hx);have HX1:Hid ((w.alloc (Obj.cells #[.int .u8 (K:Int),.int .i64 n,.string ⟨q.toArray⟩] 46)).heap[w.heap.size]?=some (Obj.cells #[.int .u8 (K:Int),.int .i64 n,.string ⟨q.toArray⟩] 46 (0,0))):=hid (heap_alloc_new w _);have HST:=hid (Stp.refl (H.later hb));clear hZ hn hK H hA har hb hx;go_enter Tryz.func54,Tryz.ntmps54;go_upto_region 1 with fail;generalize w.alloc (Obj.cells #[.int .u8 (K:Int),.int .i64 n,.string ⟨q.toArray⟩] 46)=w1 at *;have HKA:=hid (HA.out.kept (XQ0.of_below HB.out.1));have b0:=HB.out.2.c0;rcases hKK.out with rfl|rfl|rfl|rfl|rfl|rfl|rfl|rfl|rfl|rfl|rfl|rfl|rfl|rfl|rfl|rfl|rfl|rfl|rfl|rfl|rfl|rfl|rfl
 ·have hm:ks.length=0:=by have h3:(ks.length:Int)=0:=HR.out.2 Ch;omega
  obtain rfl:=Z' hm;obtain rfl:=Z' hlt.symm;clear hlt hm;obtain⟨HE,HL⟩:=pie (T:=bs++[q].flatten) Cj HN.out;have qw:=qc HB HST;go_wp2_with fail;refine (fQ2 [q] HST (bl HL.out) Cp rfl).mono ?_;rintro e wz ⟨rfl,HST⟩;go_wp2_with fail;go_end0;exact fin HE HH HB HST
 ·have hm:ks.length=0:=by have h3:(ks.length:Int)=0:=HR.out.2 Ch;omega
  obtain rfl:=Z' hm;obtain rfl:=Z' hlt.symm;clear hlt hm;obtain⟨HE,HL⟩:=pie (T:=bs++[q].flatten) Cj HN.out;have qw:=qc HB HST;go_wp2_with fail;refine (fQ2 [q] HST (bl HL.out) Cp rfl).mono ?_;rintro e wz ⟨rfl,HST⟩;go_wp2_with fail;go_end0;exact fin HE HH HB HST
 ·have hm:ks.length=1:=by have h3:(ks.length:Int)=1:=HR.out.2 Ch;omega
  obtain⟨c0,rfl⟩:=gQ1 hm;obtain⟨x0,rfl⟩:=gQ1 (hlt.symm.trans hm);clear hm hlt;obtain⟨kb,ko,rfl⟩:=adr HKA (c:=c0) rfl;obtain⟨HE,HL⟩:=pie (T:=bs++xE [x0] [[40],[41]]) Cj HN.out;go_wp2_with fail;refine (gQ2 [[40],[41]] HK HKA HST (bl HL.out) hkl Cp rfl).mono ?_;rintro e wz ⟨rfl,HST⟩;go_wp2_with fail;go_end0;exact fin HE HH HB HST
 ·have hm:ks.length=2:=by have h3:(ks.length:Int)=2:=HR.out.2 Ch;omega
  obtain⟨c0,c1,rfl⟩:=hQ1 hm;obtain⟨x0,x1,rfl⟩:=hQ1 (hlt.symm.trans hm);clear hm hlt;obtain⟨kb,ko,rfl⟩:=adr HKA (c:=c0) rfl;have P0:=iQ2 HK 0 (c:=c0) (x:=x0) rfl rfl;have P1:=iQ2 HK 1 (c:=c1) (x:=x1) rfl rfl;obtain⟨HE,HL⟩:=pie (T:=bs++(x0.2++(if x0.1=27 then [32] else []))++[[46]].flatten++x1.2) Cj HN.out;have k0:=kc0 HKA HST (c:=c0) rfl;go_wp2_with fail;refine (YQ2 P0 HST (bl (bc (bc HL.out)))).mono ?_;rintro e wz ⟨rfl,HST⟩;go_wp2_with fail;refine (fQ2 [[46]] HST (bl (bc HL.out)) Cp rfl).mono ?_;rintro e wz ⟨rfl,HST⟩;have k1:=kc HKA HST (c:=c1) 1 rfl;go_wp2_with fail;refine (hQ2 P1 HST (bl HL.out)).mono ?_;rintro e wz ⟨rfl,HST⟩;go_wp2_with fail;go_end0;exact fin HE HH HB HST
 ·have hm:ks.length=2:=by have h3:(ks.length:Int)=2:=HR.out.2 Ch;omega
  obtain⟨c0,c1,rfl⟩:=hQ1 hm;obtain⟨x0,x1,rfl⟩:=hQ1 (hlt.symm.trans hm);clear hm hlt;obtain⟨kb,ko,rfl⟩:=adr HKA (c:=c0) rfl;obtain⟨HE,HL⟩:=pie (T:=bs++xE [x0,x1] [[],[91],[93]]) Cj HN.out;go_wp2_with fail;refine (gQ2 [[],[91],[93]] HK HKA HST (bl HL.out) hkl Cp rfl).mono ?_;rintro e wz ⟨rfl,HST⟩;go_wp2_with fail;go_end0;exact fin HE HH HB HST
 ·have hm:ks.length=4:=by have h3:(ks.length:Int)=4:=HR.out.2 Ch;omega
  obtain⟨c0,c1,c2,c3,rfl⟩:=rQ1 hm;obtain⟨x0,x1,x2,x3,rfl⟩:=rQ1 (hlt.symm.trans hm);clear hm hlt;obtain⟨kb,ko,rfl⟩:=adr HKA (c:=c0) rfl;have P3:=iQ2 HK 3 (c:=c3) (x:=x3) rfl rfl;replace hcap:4<=cap:=hcap;obtain⟨HE,HL⟩:=pie (T:=bs++xE [x0,x1,x2] [[],[91],[58],[]]++WQ0 [58] x3.2 []++[[93]].flatten) Cj HN.out;go_wp2_with fail;refine (gQ2 [[],[91],[58],[]] (ks:=[c0,c1,c2]) (ts:=[x0,x1,x2]) (a:=some ⟨kb,ko,none⟩) (yQ2 HK 0 3) (zQ2 HKA 0 3) HST (bl (bc (bc HL.out))) Cm Cp rfl).mono ?_;rintro e wz ⟨rfl,HST⟩;have k3:=kc HKA HST (c:=c3) 3 rfl;go_wp2_with fail;refine (lQ2 P3 [58] HST (bl (bc HL.out))).mono ?_;rintro e wz ⟨rfl,HST⟩;go_wp2_with fail;refine (fQ2 [[93]] HST (bl HL.out) Cp rfl).mono ?_;rintro e wz ⟨rfl,HST⟩;go_wp2_with fail;go_end0;exact fin HE HH HB HST
 ·have hm:ks.length=2:=by have h3:(ks.length:Int)=2:=HR.out.2 Ch;omega
  obtain⟨c0,c1,rfl⟩:=hQ1 hm;obtain⟨x0,x1,rfl⟩:=hQ1 (hlt.symm.trans hm);clear hm hlt;obtain⟨kb,ko,rfl⟩:=adr HKA (c:=c0) rfl;have P0:=iQ2 HK 0 (c:=c0) (x:=x0) rfl rfl;replace hcap:2<=cap:=hcap;have hcn1:cap≠1:=Cf
  have hcd1:decide (cap=1)=false:=Cn
  obtain⟨HE,HL⟩:=pie (T:=bs++(x0.2++(if x0.1=27 then [32] else []))++xE [x1] [[46,40],[41]]) Cj HN.out;have k0:=kc0 HKA HST (c:=c0) rfl;go_wp2_with fail;refine (YQ2 P0 HST (bl (bc HL.out))).mono ?_;rintro e wz ⟨rfl,HST⟩;go_wp2_with fail;refine (gQ2 [[46,40],[41]] (ks:=[c1]) (ts:=[x1]) (a:=some ⟨kb,ko+1,none⟩) (yQ2 HK 1 1) (zQ2 HKA 1 1) HST (bl HL.out) Cm Cp rfl).mono ?_;rintro e wz ⟨rfl,HST⟩;go_wp2_with fail;go_end0;exact fin HE HH HB HST
 ·have hm:ks.length=1:=by have h3:(ks.length:Int)=1:=HR.out.2 Ch;omega
  obtain⟨c0,rfl⟩:=gQ1 hm;obtain⟨x0,rfl⟩:=gQ1 (hlt.symm.trans hm);clear hm hlt;obtain⟨kb,ko,rfl⟩:=adr HKA (c:=c0) rfl;have P0:=iQ2 HK 0 (c:=c0) (x:=x0) rfl rfl;obtain⟨HE,HL⟩:=pie (T:=bs++(x0.2++(if x0.1=27 then [32] else []))++[[46,40,116,121,112,101,41]].flatten) Cj HN.out;have k0:=kc0 HKA HST (c:=c0) rfl;go_wp2_with fail;refine (YQ2 P0 HST (bl (bc HL.out))).mono ?_;rintro e wz ⟨rfl,HST⟩;go_wp2_with fail;refine (fQ2 [[46,40,116,121,112,101,41]] HST (bl HL.out) Cp rfl).mono ?_;rintro e wz ⟨rfl,HST⟩;go_wp2_with fail;go_end0;exact fin HE HH HB HST
 ·have hm:ks.length=2:=by have h3:(ks.length:Int)=2:=HR.out.2 Ch;omega
  obtain⟨c0,c1,rfl⟩:=hQ1 hm;obtain⟨x0,x1,rfl⟩:=hQ1 (hlt.symm.trans hm);clear hm hlt;obtain⟨kb,ko,rfl⟩:=adr HKA (c:=c0) rfl;by_cases hq:q=[]
  ·have hq1:(q==[])=true:=by simpa using hq
   obtain⟨HE,HL⟩:=pie (T:=bs++xE [x0,x1] [[],[40],[]]++[[41]].flatten) Dh HN.out;replace hq:=hid hq;have qw:=qc HB HST;go_wp2_with fail;refine (gQ2 [[],[40],[]] HK HKA HST (bl (bc HL.out)) hkl Cp rfl).mono ?_;rintro e wz ⟨rfl,HST⟩;have qw:=qc HB HST;go_wp2_with fail;refine (fQ2 [[41]] HST (bl HL.out) Cp rfl).mono ?_;rintro e wz ⟨rfl,HST⟩;go_wp2_with fail;go_end0;exact fin HE HH HB HST
  ·have hq1:(q==[])=false:=by simpa using hq
   obtain⟨HE,HL⟩:=pie (T:=bs++xE [x0,x1] [[],[40],[]]++[[32],q].flatten++[[41]].flatten) Dh HN.out;replace hq:=hid hq;have qw:=qc HB HST;go_wp2_with fail;refine (gQ2 [[],[40],[]] HK HKA HST (bl (bc (bc HL.out))) hkl Cp rfl).mono ?_;rintro e wz ⟨rfl,HST⟩;have qw:=qc HB HST;go_wp2_with fail;refine (fQ2 [[32],q] HST (bl (bc HL.out)) Cp rfl).mono ?_;rintro e wz ⟨rfl,HST⟩;have qw:=qc HB HST;go_wp2_with fail;refine (fQ2 [[41]] HST (bl HL.out) Cp rfl).mono ?_;rintro e wz ⟨rfl,HST⟩;go_wp2_with fail;go_end0;exact fin HE HH HB HST
 ·have hm:ks.length=1:=by have h3:(ks.length:Int)=1:=HR.out.2 Ch;omega
  obtain⟨c0,rfl⟩:=gQ1 hm;obtain⟨x0,rfl⟩:=gQ1 (hlt.symm.trans hm);clear hm hlt;obtain⟨kb,ko,rfl⟩:=adr HKA (c:=c0) rfl;obtain⟨HE,HL⟩:=pie (T:=bs++xE [x0] [[42],[]]) Cj HN.out;go_wp2_with fail;refine (gQ2 [[42],[]] HK HKA HST (bl HL.out) hkl Cp rfl).mono ?_;rintro e wz ⟨rfl,HST⟩;go_wp2_with fail;go_end0;exact fin HE HH HB HST
 ·have hm:ks.length=1:=by have h3:(ks.length:Int)=1:=HR.out.2 Ch;omega
  obtain⟨c0,rfl⟩:=gQ1 hm;obtain⟨x0,rfl⟩:=gQ1 (hlt.symm.trans hm);clear hm hlt;obtain⟨kb,ko,rfl⟩:=adr HKA (c:=c0) rfl;have P0:=iQ2 HK 0 (c:=c0) (x:=x0) rfl rfl;by_cases hu:x0.1=36
  ·have hu1:((x0.1.toNat:Int)==36)=true:=by rw [hu];rfl
   have hu2:(x0.1.toNat==36)=true:=by rw [hu];rfl
   obtain⟨HE,HL⟩:=pie (T:=bs++[q].flatten++[[32]].flatten++x0.2) G7 HN.out;replace hu:=hid hu;have qw:=qc HB HST;go_wp2_with fail;refine (fQ2 [q] HST (bl (bc (bc HL.out))) Cp rfl).mono ?_;rintro e wz ⟨rfl,HST⟩;have k0:=kc0 HKA HST (c:=c0) rfl;obtain⟨pq,hpq,hkq⟩:=P0.out.2;obtain⟨⟨vw,hvw⟩,hew⟩:=HST.out.1;obtain⟨pw,_,hbw⟩:=hvw.blk;obtain⟨lb,lo,lc,rfl,_,hpc⟩:=hew.parts;obtain⟨kq,_,_⟩:=hpc c0 pq hpq;rw [hkq] at kq;have lq:wz.cell? ⟨b,2,none⟩=some (.slice (some ⟨lb,lo,none⟩) l.length lc):=by unfold World.cell?;rw [hbw];rfl
   have hcl:=(Ai.1 hpq).1;have i0:(0:Int)<=(c0:Int):=Cf
   have i1:(c0:Int) < (l.length:Int):=Cf
   have hb1:=(J' wz.heap.size wz).drew;have HSQ:Hid (wz.drew.cell? ⟨b,2,none⟩=some (.slice (some ⟨lb,lo,none⟩) l.length lc)/\wz.drew.cell? ⟨kb,ko,none⟩=some (.int .i64 (c0:Int))/\wz.drew.cell? ⟨lb,lo+c0*3,none⟩=some (.int .u8 (x0.1.toNat:Int))):=hid ⟨lq,k0,kq⟩;clear hvw hew hbw hpc;go_upto_region 32 with fail;clear lq kq k0;refine wp_region_held_drew (S:=fun w'=>w'.cell? ⟨b,2,none⟩=some (.slice (some ⟨lb,lo,none⟩) l.length lc)/\w'.cell? ⟨kb,ko,none⟩=some (.int .i64 (c0:Int))/\w'.cell? ⟨lb,lo+c0*3,none⟩=some (.int .u8 (x0.1.toNat:Int))) Ci ?_ (fun hHeld=>?_)
   ·exact HSQ.out
   refine tk 0 ?_;try simp only [Act.put,ls]
   refine tk 1 ?_;try simp only [Act.put,ls]
   refine tk 2 ?_;try simp only [Act.put,ls]
   refine tk 3 ?_;try simp only [Act.put,ls]
   refine tk 4 ?_;try simp only [Act.put,ls]
   refine tk 5 ?_;try simp only [Act.put,ls]
   refine tk 6 ?_;try simp only [Act.put,ls]
   refine tk 7 ?_;try simp only [Act.put,ls]
   refine tk 8 ?_;try simp only [Act.put,ls]
   refine tk 9 ?_;try simp only [Act.put,ls]
   refine tk 10 ?_;try simp only [Act.put,ls]
   refine wpAnyH_done Ci ?_ _;replace HST:=kQ2 HST hb1;clear hb1 HSQ;generalize wz.drew=wz at *;go_wp2_with fail;refine (fQ2 [[32]] HST (bl (bc HL.out)) Cp rfl).mono ?_;rintro e wz ⟨rfl,HST⟩;have k0:=kc0 HKA HST (c:=c0) rfl;go_wp2_with fail;refine (hQ2 P0 HST (bl HL.out)).mono ?_;rintro e wz ⟨rfl,HST⟩;go_wp2_with fail;go_end0;exact fin HE HH HB HST
  ·have hu2:(x0.1.toNat==36)=false:=by rw [beq_eq_false_iff_ne];intro h;exact hu (Av.1 Dc)
   have hu1:((x0.1.toNat:Int)==36)=false:=by rw [beq_eq_false_iff_ne] at hu2 ⊢;omega
   obtain⟨HE,HL⟩:=pie (T:=bs++[q].flatten++x0.2) G7 HN.out;replace hu:=hid hu;have qw:=qc HB HST;go_wp2_with fail;refine (fQ2 [q] HST (bl (bc HL.out)) Cp rfl).mono ?_;rintro e wz ⟨rfl,HST⟩;have k0:=kc0 HKA HST (c:=c0) rfl;obtain⟨pq,hpq,hkq⟩:=P0.out.2;obtain⟨⟨vw,hvw⟩,hew⟩:=HST.out.1;obtain⟨pw,_,hbw⟩:=hvw.blk;obtain⟨lb,lo,lc,rfl,_,hpc⟩:=hew.parts;obtain⟨kq,_,_⟩:=hpc c0 pq hpq;rw [hkq] at kq;have lq:wz.cell? ⟨b,2,none⟩=some (.slice (some ⟨lb,lo,none⟩) l.length lc):=by unfold World.cell?;rw [hbw];rfl
   have hcl:=(Ai.1 hpq).1;have i0:(0:Int)<=(c0:Int):=Cf
   have i1:(c0:Int) < (l.length:Int):=Cf
   have hb1:=(J' wz.heap.size wz).drew;have HSQ:Hid (wz.drew.cell? ⟨b,2,none⟩=some (.slice (some ⟨lb,lo,none⟩) l.length lc)/\wz.drew.cell? ⟨kb,ko,none⟩=some (.int .i64 (c0:Int))/\wz.drew.cell? ⟨lb,lo+c0*3,none⟩=some (.int .u8 (x0.1.toNat:Int))):=hid ⟨lq,k0,kq⟩;clear hvw hew hbw hpc;go_upto_region 32 with fail;clear lq kq k0;refine wp_region_held_drew (S:=fun w'=>w'.cell? ⟨b,2,none⟩=some (.slice (some ⟨lb,lo,none⟩) l.length lc)/\w'.cell? ⟨kb,ko,none⟩=some (.int .i64 (c0:Int))/\w'.cell? ⟨lb,lo+c0*3,none⟩=some (.int .u8 (x0.1.toNat:Int))) Ci ?_ (fun hHeld=>?_)
   ·exact HSQ.out
   refine tk 0 ?_;try simp only [Act.put,ls]
   refine tk 1 ?_;try simp only [Act.put,ls]
   refine tk 2 ?_;try simp only [Act.put,ls]
   refine tk 3 ?_;try simp only [Act.put,ls]
   refine tk 4 ?_;try simp only [Act.put,ls]
   refine tk 5 ?_;try simp only [Act.put,ls]
   refine tk 6 ?_;try simp only [Act.put,ls]
   refine tk 7 ?_;try simp only [Act.put,ls]
   refine tk 8 ?_;try simp only [Act.put,ls]
   refine tk 9 ?_;try simp only [Act.put,ls]
   refine tk 10 ?_;try simp only [Act.put,ls]
   refine wpAnyH_done Ci ?_ _;replace HST:=kQ2 HST hb1;clear hb1 HSQ;generalize wz.drew=wz at *;have k0:=kc0 HKA HST (c:=c0) rfl;go_wp2_with fail;refine (hQ2 P0 HST (bl HL.out)).mono ?_;rintro e wz ⟨rfl,HST⟩;go_wp2_with fail;go_end0;exact fin HE HH HB HST
 ·have hm:ks.length=2:=by have h3:(ks.length:Int)=2:=HR.out.2 Ch;omega
  obtain⟨c0,c1,rfl⟩:=hQ1 hm;obtain⟨x0,x1,rfl⟩:=hQ1 (hlt.symm.trans hm);clear hm hlt;obtain⟨kb,ko,rfl⟩:=adr HKA (c:=c0) rfl;obtain⟨HE,HL⟩:=pie (T:=bs++xE [x0,x1] [[],(32::(q++[32])),[]]) Cj HN.out;have qw:=qc HB HST;go_wp2_with fail;refine (gQ2 [[],(32::(q++[32])),[]] HK HKA HST (bl HL.out) hkl Cp rfl).mono ?_;rintro e wz ⟨rfl,HST⟩;go_wp2_with fail;go_end0;exact fin HE HH HB HST
 ·have hm:ks.length=2:=by have h3:(ks.length:Int)=2:=HR.out.2 Ch;omega
  obtain⟨c0,c1,rfl⟩:=hQ1 hm;obtain⟨x0,x1,rfl⟩:=hQ1 (hlt.symm.trans hm);clear hm hlt;obtain⟨kb,ko,rfl⟩:=adr HKA (c:=c0) rfl;obtain⟨HE,HL⟩:=pie (T:=bs++xE [x0,x1] [[],[58,32],[]]) Cj HN.out;go_wp2_with fail;refine (gQ2 [[],[58,32],[]] HK HKA HST (bl HL.out) hkl Cp rfl).mono ?_;rintro e wz ⟨rfl,HST⟩;go_wp2_with fail;go_end0;exact fin HE HH HB HST
 ·have hm:ks.length=2:=by have h3:(ks.length:Int)=2:=HR.out.2 Ch;omega
  obtain⟨c0,c1,rfl⟩:=hQ1 hm;obtain⟨x0,x1,rfl⟩:=hQ1 (hlt.symm.trans hm);clear hm hlt;obtain⟨kb,ko,rfl⟩:=adr HKA (c:=c0) rfl;obtain⟨HE,HL⟩:=pie (T:=bs++xE [x0,x1] [[],[123],[125]]) Cj HN.out;go_wp2_with fail;refine (gQ2 [[],[123],[125]] HK HKA HST (bl HL.out) hkl Cp rfl).mono ?_;rintro e wz ⟨rfl,HST⟩;go_wp2_with fail;go_end0;exact fin HE HH HB HST
 ·have hm:ks.length=2:=by have h3:(ks.length:Int)=2:=HR.out.2 Ch;omega
  obtain⟨c0,c1,rfl⟩:=hQ1 hm;obtain⟨x0,x1,rfl⟩:=hQ1 (hlt.symm.trans hm);clear hm hlt;obtain⟨kb,ko,rfl⟩:=adr HKA (c:=c0) rfl;obtain⟨HE,HL⟩:=pie (T:=bs++xE [x0,x1] [[102,117,110,99],[32],[]]) Cj HN.out;go_wp2_with fail;refine (gQ2 [[102,117,110,99],[32],[]] HK HKA HST (bl HL.out) hkl Cp rfl).mono ?_;rintro e wz ⟨rfl,HST⟩;go_wp2_with fail;go_end0;exact fin HE HH HB HST
 ·have hm:ks.length=2:=by have h3:(ks.length:Int)=2:=HR.out.2 Ch;omega
  obtain⟨c0,c1,rfl⟩:=hQ1 hm;obtain⟨x0,x1,rfl⟩:=hQ1 (hlt.symm.trans hm);clear hm hlt;obtain⟨kb,ko,rfl⟩:=adr HKA (c:=c0) rfl;obtain⟨HE,HL⟩:=pie (T:=bs++xE [x0,x1] [[91],[93],[]]) Cj HN.out;go_wp2_with fail;refine (gQ2 [[91],[93],[]] HK HKA HST (bl HL.out) hkl Cp rfl).mono ?_;rintro e wz ⟨rfl,HST⟩;go_wp2_with fail;go_end0;exact fin HE HH HB HST
 ·have hm:ks.length=1:=by have h3:(ks.length:Int)=1:=HR.out.2 Ch;omega
  obtain⟨c0,rfl⟩:=gQ1 hm;obtain⟨x0,rfl⟩:=gQ1 (hlt.symm.trans hm);clear hm hlt;obtain⟨kb,ko,rfl⟩:=adr HKA (c:=c0) rfl;obtain⟨HE,HL⟩:=pie (T:=bs++xE [x0] [[91,46,46,46,93],[]]) Cj HN.out;go_wp2_with fail;refine (gQ2 [[91,46,46,46,93],[]] HK HKA HST (bl HL.out) hkl Cp rfl).mono ?_;rintro e wz ⟨rfl,HST⟩;go_wp2_with fail;go_end0;exact fin HE HH HB HST
 ·have hm:ks.length=1:=by have h3:(ks.length:Int)=1:=HR.out.2 Ch;omega
  obtain⟨c0,rfl⟩:=gQ1 hm;obtain⟨x0,rfl⟩:=gQ1 (hlt.symm.trans hm);clear hm hlt;obtain⟨kb,ko,rfl⟩:=adr HKA (c:=c0) rfl;obtain⟨HE,HL⟩:=pie (T:=bs++xE [x0] [[91,93],[]]) Cj HN.out;go_wp2_with fail;refine (gQ2 [[91,93],[]] HK HKA HST (bl HL.out) hkl Cp rfl).mono ?_;rintro e wz ⟨rfl,HST⟩;go_wp2_with fail;go_end0;exact fin HE HH HB HST
 ·have hm:ks.length=2:=by have h3:(ks.length:Int)=2:=HR.out.2 Ch;omega
  obtain⟨c0,c1,rfl⟩:=hQ1 hm;obtain⟨x0,x1,rfl⟩:=hQ1 (hlt.symm.trans hm);clear hm hlt;obtain⟨kb,ko,rfl⟩:=adr HKA (c:=c0) rfl;obtain⟨HE,HL⟩:=pie (T:=bs++xE [x0,x1] [[109,97,112,91],[93],[]]) Cj HN.out;go_wp2_with fail;refine (gQ2 [[109,97,112,91],[93],[]] HK HKA HST (bl HL.out) hkl Cp rfl).mono ?_;rintro e wz ⟨rfl,HST⟩;go_wp2_with fail;go_end0;exact fin HE HH HB HST
 ·have hm:ks.length=1:=by have h3:(ks.length:Int)=1:=HR.out.2 Ch;omega
  obtain⟨c0,rfl⟩:=gQ1 hm;obtain⟨x0,rfl⟩:=gQ1 (hlt.symm.trans hm);clear hm hlt;obtain⟨kb,ko,rfl⟩:=adr HKA (c:=c0) rfl;obtain⟨HE,HL⟩:=pie (T:=bs++xE [x0] [(q++[32]),[]]) Cj HN.out;have qw:=qc HB HST;go_wp2_with fail;refine (gQ2 [(q++[32]),[]] HK HKA HST (bl HL.out) hkl Cp rfl).mono ?_;rintro e wz ⟨rfl,HST⟩;go_wp2_with fail;go_end0;exact fin HE HH HB HST
 ·have hm:ks.length=1:=by have h3:(ks.length:Int)=1:=HR.out.2 Ch;omega
  obtain⟨c0,rfl⟩:=gQ1 hm;obtain⟨x0,rfl⟩:=gQ1 (hlt.symm.trans hm);clear hm hlt;obtain⟨kb,ko,rfl⟩:=adr HKA (c:=c0) rfl;obtain⟨HE,HL⟩:=pie (T:=bs++xE [x0] [[102,117,110,99],[]]) Cj HN.out;go_wp2_with fail;refine (gQ2 [[102,117,110,99],[]] HK HKA HST (bl HL.out) hkl Cp rfl).mono ?_;rintro e wz ⟨rfl,HST⟩;go_wp2_with fail;go_end0;exact fin HE HH HB HST
 ·have hm:ks.length=1:=by have h3:(ks.length:Int)=1:=HR.out.2 Ch;omega
  obtain⟨c0,rfl⟩:=gQ1 hm;obtain⟨x0,rfl⟩:=gQ1 (hlt.symm.trans hm);clear hm hlt;obtain⟨kb,ko,rfl⟩:=adr HKA (c:=c0) rfl;obtain⟨HE,HL⟩:=pie (T:=bs++xE [x0] [[115,116,114,117,99,116,123],[125]]) Cj HN.out;go_wp2_with fail;refine (gQ2 [[115,116,114,117,99,116,123],[125]] HK HKA HST (bl HL.out) hkl Cp rfl).mono ?_;rintro e wz ⟨rfl,HST⟩;go_wp2_with fail;go_end0;exact fin HE HH HB HST
 ·have hm:ks.length=1:=by have h3:(ks.length:Int)=1:=HR.out.2 Ch;omega
  obtain⟨c0,rfl⟩:=gQ1 hm;obtain⟨x0,rfl⟩:=gQ1 (hlt.symm.trans hm);clear hm hlt;obtain⟨kb,ko,rfl⟩:=adr HKA (c:=c0) rfl;obtain⟨HE,HL⟩:=pie (T:=bs++xE [x0] [[105,110,116,101,114,102,97,99,101,123],[125]]) Cj HN.out;go_wp2_with fail;refine (gQ2 [[105,110,116,101,114,102,97,99,101,123],[125]] HK HKA HST (bl HL.out) hkl Cp rfl).mono ?_;rintro e wz ⟨rfl,HST⟩;go_wp2_with fail;go_end0;exact fin HE HH HB HST
end Rnd
namespace Rnd
open Go.RowKit
open Grd (Pt Fo)
variable {w w':World}{B b:Nat}{lv rv ev:Value}{l:List Pt}{raw:Nat->List UInt8}{E:List Nat}{bs t:List UInt8}{c:Nat}
attribute [local simp] ByteArray.mk_append_mk
theorem JQ2 (K:Nat) (n:Int) (q:List UInt8) (a:Option Addr) (cap:Nat) {ks:List Nat}{ts:List Tx} (hK:KL l raw E lv rv ev ks ts) (hcap:ks.length<=cap) (hA:YQ0 b a ks w) (H:St B b l raw E lv rv ev bs w) (hn:bs.length+(TQ0 K q ts).length<=1099511627776) (hql:q.length<=1048576) (hkl:ks.length<=100000000) (har:(gD K).1<=(ks.length:Int)/\((gD K).2=false->(ks.length:Int)=(gD K).1)) (hKK:K=59∨K=60∨K=61∨K=65∨K=66) :
  Calls Tryz.prog 91 #[.pointer (some ⟨b,0,none⟩),.agg #[.int .u8 (K:Int),.int .i64 n,.string ⟨q.toArray⟩],.slice a ks.length cap] w fun e w'=>e=.returned (.tuple #[])/\Stp B b l raw E lv rv ev (bs++TQ0 K q ts) w w':=by
 have hlt:=hK.len;obtain⟨Z,hZ⟩:∃ Z,Z=TQ0 K q ts:=⟨_,rfl⟩;rw [<- hZ] at hn ⊢;have HZ:=hid hZ;have HN:=hid hn;have HK:=hid hK;have HH:=hid H;have HA:=hid hA;have HR:=hid har;replace hKK:=hid hKK;have hb:=(J' w.heap.size w).alloc (C' _) (Obj.cells #[.int .u8 (K:Int),.int .i64 n,.string ⟨q.toArray⟩] 46);have hx:Box b w.heap.size (K:Int) q (w.alloc (Obj.cells #[.int .u8 (K:Int),.int .i64 n,.string ⟨q.toArray⟩] 46)):=⟨Ez,n,heap_alloc_new w _⟩;have HB:=hid (And.intro hb hx);have HX1:Hid ((w.alloc (Obj.cells #[.int .u8 (K:Int),.int .i64 n,.string ⟨q.toArray⟩] 46)).heap[w.heap.size]?=some (Obj.cells #[.int .u8 (K:Int),.int .i64 n,.string ⟨q.toArray⟩] 46 (0,0))):=hid (heap_alloc_new w _);have HST:=hid (Stp.refl (H.later hb));clear hZ hn hK H hA har hb hx;go_enter Tryz.func91,Tryz.ntmps91;go_upto_region 1 with fail;generalize w.alloc (Obj.cells #[.int .u8 (K:Int),.int .i64 n,.string ⟨q.toArray⟩] 46)=w1 at *;have HKA:=hid (HA.out.kept (XQ0.of_below HB.out.1));have b0:=HB.out.2.c0;rcases hKK.out with rfl|rfl|rfl|rfl|rfl
 ·have hm:ks.length=4:=by have h3:(ks.length:Int)=4:=HR.out.2 Ch;omega
  obtain⟨c0,c1,c2,c3,rfl⟩:=rQ1 hm;obtain⟨x0,x1,x2,x3,rfl⟩:=rQ1 (hlt.symm.trans hm);clear hm hlt;obtain⟨kb,ko,rfl⟩:=adr HKA (c:=c0) rfl;have P0:=iQ2 HK 0 (c:=c0) (x:=x0) rfl rfl;have P3:=iQ2 HK 3 (c:=c3) (x:=x3) rfl rfl;replace hcap:4<=cap:=hcap;have hcn1:cap≠1:=Cf
  have hcd1:decide (cap=1)=false:=Cn
  obtain⟨HE,HL⟩:=pie (T:=bs++[[105,102,32]].flatten++WQ0 [] x0.2 [59,32]++xE [x1,x2] [[],[32],[]]++WQ0 [32,101,108,115,101,32] x3.2 []) Cj HN.out;go_wp2_with fail;refine (fQ2 [[105,102,32]] HST (bl (bc (bc (bc HL.out)))) Cp rfl).mono ?_;rintro e wz ⟨rfl,HST⟩;have k0:=kc0 HKA HST (c:=c0) rfl;go_wp2_with fail;refine (nQ2 P0 [59,32] HST (bl (bc (bc HL.out)))).mono ?_;rintro e wz ⟨rfl,HST⟩;go_wp2_with fail;refine (gQ2 [[],[32],[]] (ks:=[c1,c2]) (ts:=[x1,x2]) (a:=some ⟨kb,ko+1,none⟩) (yQ2 HK 1 2) (zQ2 HKA 1 2) HST (bl (bc HL.out)) Cm Cp rfl).mono ?_;rintro e wz ⟨rfl,HST⟩;have k3:=kc HKA HST (c:=c3) 3 rfl;go_wp2_with fail;refine (lQ2 P3 [32,101,108,115,101,32] HST (bl HL.out)).mono ?_;rintro e wz ⟨rfl,HST⟩;go_wp2_with fail;go_end0;exact fin HE HH HB HST
 ·have hm:ks.length=3:=by have h3:(ks.length:Int)=3:=HR.out.2 Ch;omega
  obtain⟨c0,c1,c2,rfl⟩:=mQ1 hm;obtain⟨x0,x1,x2,rfl⟩:=mQ1 (hlt.symm.trans hm);clear hm hlt;obtain⟨kb,ko,rfl⟩:=adr HKA (c:=c0) rfl;have P0:=iQ2 HK 0 (c:=c0) (x:=x0) rfl rfl;have P1:=iQ2 HK 1 (c:=c1) (x:=x1) rfl rfl;replace hcap:3<=cap:=hcap;have hcn2:cap≠2:=Cf
  have hcd2:decide (cap=2)=false:=Cn
  obtain⟨HE,HL⟩:=pie (T:=bs++[[115,119,105,116,99,104,32]].flatten++WQ0 [] x0.2 [59,32]++WQ0 [] x1.2 [32]++xE [x2] [[123,10],[125]]) Cj HN.out;go_wp2_with fail;refine (fQ2 [[115,119,105,116,99,104,32]] HST (bl (bc (bc (bc HL.out)))) Cp rfl).mono ?_;rintro e wz ⟨rfl,HST⟩;have k0:=kc0 HKA HST (c:=c0) rfl;go_wp2_with fail;refine (nQ2 P0 [59,32] HST (bl (bc (bc HL.out)))).mono ?_;rintro e wz ⟨rfl,HST⟩;have k1:=kc HKA HST (c:=c1) 1 rfl;go_wp2_with fail;refine (nQ2 P1 [32] HST (bl (bc HL.out))).mono ?_;rintro e wz ⟨rfl,HST⟩;go_wp2_with fail;refine (gQ2 [[123,10],[125]] (ks:=[c2]) (ts:=[x2]) (a:=some ⟨kb,ko+2,none⟩) (yQ2 HK 2 1) (zQ2 HKA 2 1) HST (bl HL.out) Cm Cp rfl).mono ?_;rintro e wz ⟨rfl,HST⟩;go_wp2_with fail;go_end0;exact fin HE HH HB HST
 ·have hm:ks.length=4:=by have h3:(ks.length:Int)=4:=HR.out.2 Ch;omega
  obtain⟨c0,c1,c2,c3,rfl⟩:=rQ1 hm;obtain⟨x0,x1,x2,x3,rfl⟩:=rQ1 (hlt.symm.trans hm);clear hm hlt;obtain⟨kb,ko,rfl⟩:=adr HKA (c:=c0) rfl;have P0:=iQ2 HK 0 (c:=c0) (x:=x0) rfl rfl;have P1:=iQ2 HK 1 (c:=c1) (x:=x1) rfl rfl;have P2:=iQ2 HK 2 (c:=c2) (x:=x2) rfl rfl;replace hcap:4<=cap:=hcap;have hcn3:cap≠3:=Cf
  have hcd3:decide (cap=3)=false:=Cn
  obtain⟨HE,HL⟩:=pie (T:=bs++[[115,119,105,116,99,104,32]].flatten++WQ0 [] x0.2 [59,32]++WQ0 [] x1.2 [32,58,61,32]++(x2.2++(if x2.1=27 then [32] else []))++xE [x3] [[46,40,116,121,112,101,41,32,123,10],[125]]) Cj HN.out;go_wp2_with fail;refine (fQ2 [[115,119,105,116,99,104,32]] HST (bl (bc (bc (bc (bc HL.out))))) Cp rfl).mono ?_;rintro e wz ⟨rfl,HST⟩;have k0:=kc0 HKA HST (c:=c0) rfl;go_wp2_with fail;refine (nQ2 P0 [59,32] HST (bl (bc (bc (bc HL.out))))).mono ?_;rintro e wz ⟨rfl,HST⟩;have k1:=kc HKA HST (c:=c1) 1 rfl;go_wp2_with fail;refine (nQ2 P1 [32,58,61,32] HST (bl (bc (bc HL.out)))).mono ?_;rintro e wz ⟨rfl,HST⟩;have k2:=kc HKA HST (c:=c2) 2 rfl;go_wp2_with fail;refine (YQ2 P2 HST (bl (bc HL.out))).mono ?_;rintro e wz ⟨rfl,HST⟩;go_wp2_with fail;refine (gQ2 [[46,40,116,121,112,101,41,32,123,10],[125]] (ks:=[c3]) (ts:=[x3]) (a:=some ⟨kb,ko+3,none⟩) (yQ2 HK 3 1) (zQ2 HKA 3 1) HST (bl HL.out) Cm Cp rfl).mono ?_;rintro e wz ⟨rfl,HST⟩;go_wp2_with fail;go_end0;exact fin HE HH HB HST
 ·have hm:ks.length=4:=by have h3:(ks.length:Int)=4:=HR.out.2 Ch;omega
  obtain⟨c0,c1,c2,c3,rfl⟩:=rQ1 hm;obtain⟨x0,x1,x2,x3,rfl⟩:=rQ1 (hlt.symm.trans hm);clear hm hlt;obtain⟨kb,ko,rfl⟩:=adr HKA (c:=c0) rfl;have P0:=iQ2 HK 0 (c:=c0) (x:=x0) rfl rfl;have P1:=iQ2 HK 1 (c:=c1) (x:=x1) rfl rfl;have P2:=iQ2 HK 2 (c:=c2) (x:=x2) rfl rfl;have P3:=iQ2 HK 3 (c:=c3) (x:=x3) rfl rfl;by_cases h0:x0.2=[] <;> by_cases h2:x2.2=[]
  ·have g0:(x0.2==[])=true:=by simpa using h0
   have g2:(x2.2==[])=true:=F9
   obtain⟨HE,HL⟩:=pie (T:=bs++[[102,111,114,32]].flatten++WQ0 [] x1.2 [32]++x3.2) Dr HN.out;have HX:Hid (x0.2.length<=1099511627776/\x2.2.length<=1099511627776):=hid ⟨by rw [h0];simp,by rw [h2];simp⟩;clear h0 h2;go_wp2_with fail;refine (fQ2 [[102,111,114,32]] HST (bl (bc (bc HL.out))) Cp rfl).mono ?_;rintro e wz ⟨rfl,HST⟩;have HSK:Hid (∀ w',Below wz.heap.size wz w'->w'.cell? ⟨kb,ko,none⟩=some (.int .i64 (c0:Int))/\w'.cell? ⟨kb,ko+2,none⟩=some (.int .i64 (c2:Int))):=hid (fun w' h=>⟨kc0 HKA (kQ2 HST h) rfl,kc HKA (kQ2 HST h) 2 rfl⟩);have hb1:=(J' wz.heap.size wz).drew;go_upto_region 20 with fail;refine wp_region_held_drew (S:=fun w'=>w'.cell? ⟨kb,ko,none⟩=some (.int .i64 (c0:Int))/\w'.cell? ⟨kb,ko+2,none⟩=some (.int .i64 (c2:Int))) Ci ?_ (fun hHeld=>?_)
   ·exact HSK.out _ hb1
   refine tk 0 ?_;try simp only [Act.put,ls]
   refine tk 1 ?_;try simp only [Act.put,ls]
   refine tk 2 ?_;try simp only [Act.put,ls]
   refine tk 3 ?_;try simp only [Act.put,ls]
   refine tk 5 ?_;try simp only [Act.put,ls]
   refine tk 6 ?_;try simp only [Act.put,ls]
   refine tk 7 ?_;try simp only [Act.put,ls]
   refine tk 8 ?_;try simp only [Act.put,ls]
   refine wpAnyH_ready (rs:=[4]) Ci Cm (AllReadyH.cons (o:=?_) ?_ (fun K hK=>?_) AllReadyH.nil)
   rotate_left
   ·exact Ax
   go_simp;go_at_call 90;refine (bU (w:=wz.drew) P0.out.1 (HST.out.1.later hb1) HX.out.1).mono ?_;rintro e wa ⟨rfl,hs,hb⟩;have hb2:=hb1.trans hb;clear hs hb;go_wp2_with fail;refine hK.out _ _ ?_ (fun hHeld4=>?_)
   ·exact HSK.out _ hb2
   clear hK K
   try simp only [Act.put,ls]
   refine wpAnyH_ready (rs:=[9]) Ci Cm (AllReadyH.cons (o:=?_) ?_ (fun K hK=>?_) AllReadyH.nil)
   rotate_left
   ·exact Ax
   go_simp;go_at_call 90;refine (bU (w:=wa) P2.out.1 (HST.out.1.later hb2) HX.out.2).mono ?_;rintro e wb ⟨rfl,hs,hb⟩;have hb3:=dA hb2 hb;clear hs hb;go_wp2_with fail;refine hK.out _ _ ?_ (fun hHeld9=>?_)
   ·exact HSK.out _ hb3
   clear hK K
   try simp only [Act.put,ls]
   refine tk 10 ?_;try simp only [Act.put,ls]
   refine tk 11 ?_;try simp only [Act.put,ls]
   refine wpAnyH_done Ci ?_ _;replace HST:=kQ2 HST hb3;clear hb1 hb2 hb3 HSK;have k1:=kc HKA HST (c:=c1) 1 rfl;go_wp2_with fail;refine (nQ2 P1 [32] HST (bl (bc HL.out))).mono ?_;rintro e wz ⟨rfl,HST⟩;have k3:=kc HKA HST (c:=c3) 3 rfl;go_wp2_with fail;refine (hQ2 P3 HST (bl HL.out)).mono ?_;rintro e wz ⟨rfl,HST⟩;go_wp2_with fail;go_end0;exact fin HE HH HB HST
  ·have g0:(x0.2==[])=true:=by simpa using h0
   have g2:(x2.2==[])=false:=F9
   obtain⟨HE,HL⟩:=pie (T:=bs++[[102,111,114,32]].flatten++[x0.2,[59,32]].flatten++x1.2++[[59,32]].flatten++[x2.2,[32]].flatten++x3.2) Dr HN.out;have HX:Hid (x0.2.length<=1099511627776/\x2.2.length<=1099511627776):=hid ⟨by rw [h0];simp,De⟩;clear h0 h2;go_wp2_with fail;refine (fQ2 [[102,111,114,32]] HST (bl (bc (bc (bc (bc (bc HL.out)))))) Cp rfl).mono ?_;rintro e wz ⟨rfl,HST⟩;have HSK:Hid (∀ w',Below wz.heap.size wz w'->w'.cell? ⟨kb,ko,none⟩=some (.int .i64 (c0:Int))/\w'.cell? ⟨kb,ko+2,none⟩=some (.int .i64 (c2:Int))):=hid (fun w' h=>⟨kc0 HKA (kQ2 HST h) rfl,kc HKA (kQ2 HST h) 2 rfl⟩);have hb1:=(J' wz.heap.size wz).drew;go_upto_region 20 with fail;refine wp_region_held_drew (S:=fun w'=>w'.cell? ⟨kb,ko,none⟩=some (.int .i64 (c0:Int))/\w'.cell? ⟨kb,ko+2,none⟩=some (.int .i64 (c2:Int))) Ci ?_ (fun hHeld=>?_)
   ·exact HSK.out _ hb1
   refine tk 0 ?_;try simp only [Act.put,ls]
   refine tk 1 ?_;try simp only [Act.put,ls]
   refine tk 2 ?_;try simp only [Act.put,ls]
   refine tk 3 ?_;try simp only [Act.put,ls]
   refine tk 5 ?_;try simp only [Act.put,ls]
   refine tk 6 ?_;try simp only [Act.put,ls]
   refine tk 7 ?_;try simp only [Act.put,ls]
   refine tk 8 ?_;try simp only [Act.put,ls]
   refine wpAnyH_ready (rs:=[4]) Ci Cm (AllReadyH.cons (o:=?_) ?_ (fun K hK=>?_) AllReadyH.nil)
   rotate_left
   ·exact Ax
   go_simp;go_at_call 90;refine (bU (w:=wz.drew) P0.out.1 (HST.out.1.later hb1) HX.out.1).mono ?_;rintro e wa ⟨rfl,hs,hb⟩;have hb2:=hb1.trans hb;clear hs hb;go_wp2_with fail;refine hK.out _ _ ?_ (fun hHeld4=>?_)
   ·exact HSK.out _ hb2
   clear hK K
   try simp only [Act.put,ls]
   refine wpAnyH_ready (rs:=[9]) Ci Cm (AllReadyH.cons (o:=?_) ?_ (fun K hK=>?_) AllReadyH.nil)
   rotate_left
   ·exact Ax
   go_simp;go_at_call 90;refine (bU (w:=wa) P2.out.1 (HST.out.1.later hb2) HX.out.2).mono ?_;rintro e wb ⟨rfl,hs,hb⟩;have hb3:=dA hb2 hb;clear hs hb;go_wp2_with fail;refine hK.out _ _ ?_ (fun hHeld9=>?_)
   ·exact HSK.out _ hb3
   clear hK K
   try simp only [Act.put,ls]
   refine tk 10 ?_;try simp only [Act.put,ls]
   refine tk 11 ?_;try simp only [Act.put,ls]
   refine wpAnyH_done Ci ?_ _;replace HST:=kQ2 HST hb3;clear hb1 hb2 hb3 HSK;go_wp2_with fail;refine (fQ2 [x0.2,[59,32]] HST (bl (bc (bc (bc (bc HL.out))))) Cp rfl).mono ?_;rintro e wz ⟨rfl,HST⟩;have k1:=kc HKA HST (c:=c1) 1 rfl;go_wp2_with fail;refine (hQ2 P1 HST (bl (bc (bc (bc HL.out))))).mono ?_;rintro e wz ⟨rfl,HST⟩;go_wp2_with fail;refine (fQ2 [[59,32]] HST (bl (bc (bc HL.out))) Cp rfl).mono ?_;rintro e wz ⟨rfl,HST⟩;go_wp2_with fail;refine (fQ2 [x2.2,[32]] HST (bl (bc HL.out)) Cp rfl).mono ?_;rintro e wz ⟨rfl,HST⟩;have k3:=kc HKA HST (c:=c3) 3 rfl;go_wp2_with fail;refine (hQ2 P3 HST (bl HL.out)).mono ?_;rintro e wz ⟨rfl,HST⟩;go_wp2_with fail;go_end0;exact fin HE HH HB HST
  ·have g0:(x0.2==[])=false:=by simpa using h0
   have g2:(x2.2==[])=true:=F9
   obtain⟨HE,HL⟩:=pie (T:=bs++[[102,111,114,32]].flatten++[x0.2,[59,32]].flatten++x1.2++[[59,32]].flatten++x3.2) Dr HN.out;have HX:Hid (x0.2.length<=1099511627776/\x2.2.length<=1099511627776):=hid ⟨De,by rw [h2];simp⟩;clear h0 h2;go_wp2_with fail;refine (fQ2 [[102,111,114,32]] HST (bl (bc (bc (bc (bc HL.out))))) Cp rfl).mono ?_;rintro e wz ⟨rfl,HST⟩;have HSK:Hid (∀ w',Below wz.heap.size wz w'->w'.cell? ⟨kb,ko,none⟩=some (.int .i64 (c0:Int))/\w'.cell? ⟨kb,ko+2,none⟩=some (.int .i64 (c2:Int))):=hid (fun w' h=>⟨kc0 HKA (kQ2 HST h) rfl,kc HKA (kQ2 HST h) 2 rfl⟩);have hb1:=(J' wz.heap.size wz).drew;go_upto_region 20 with fail;refine wp_region_held_drew (S:=fun w'=>w'.cell? ⟨kb,ko,none⟩=some (.int .i64 (c0:Int))/\w'.cell? ⟨kb,ko+2,none⟩=some (.int .i64 (c2:Int))) Ci ?_ (fun hHeld=>?_)
   ·exact HSK.out _ hb1
   refine tk 0 ?_;try simp only [Act.put,ls]
   refine tk 1 ?_;try simp only [Act.put,ls]
   refine tk 2 ?_;try simp only [Act.put,ls]
   refine tk 3 ?_;try simp only [Act.put,ls]
   refine tk 5 ?_;try simp only [Act.put,ls]
   refine tk 6 ?_;try simp only [Act.put,ls]
   refine tk 7 ?_;try simp only [Act.put,ls]
   refine tk 8 ?_;try simp only [Act.put,ls]
   refine wpAnyH_ready (rs:=[4]) Ci Cm (AllReadyH.cons (o:=?_) ?_ (fun K hK=>?_) AllReadyH.nil)
   rotate_left
   ·exact Ax
   go_simp;go_at_call 90;refine (bU (w:=wz.drew) P0.out.1 (HST.out.1.later hb1) HX.out.1).mono ?_;rintro e wa ⟨rfl,hs,hb⟩;have hb2:=hb1.trans hb;clear hs hb;go_wp2_with fail;refine hK.out _ _ ?_ (fun hHeld4=>?_)
   ·exact HSK.out _ hb2
   clear hK K
   try simp only [Act.put,ls]
   refine wpAnyH_ready (rs:=[9]) Ci Cm (AllReadyH.cons (o:=?_) ?_ (fun K hK=>?_) AllReadyH.nil)
   rotate_left
   ·exact Ax
   go_simp;go_at_call 90;refine (bU (w:=wa) P2.out.1 (HST.out.1.later hb2) HX.out.2).mono ?_;rintro e wb ⟨rfl,hs,hb⟩;have hb3:=dA hb2 hb;clear hs hb;go_wp2_with fail;refine hK.out _ _ ?_ (fun hHeld9=>?_)
   ·exact HSK.out _ hb3
   clear hK K
   try simp only [Act.put,ls]
   refine tk 10 ?_;try simp only [Act.put,ls]
   refine tk 11 ?_;try simp only [Act.put,ls]
   refine wpAnyH_done Ci ?_ _;replace HST:=kQ2 HST hb3;clear hb1 hb2 hb3 HSK;go_wp2_with fail;refine (fQ2 [x0.2,[59,32]] HST (bl (bc (bc (bc HL.out)))) Cp rfl).mono ?_;rintro e wz ⟨rfl,HST⟩;have k1:=kc HKA HST (c:=c1) 1 rfl;go_wp2_with fail;refine (hQ2 P1 HST (bl (bc (bc HL.out)))).mono ?_;rintro e wz ⟨rfl,HST⟩;go_wp2_with fail;refine (fQ2 [[59,32]] HST (bl (bc HL.out)) Cp rfl).mono ?_;rintro e wz ⟨rfl,HST⟩;have k3:=kc HKA HST (c:=c3) 3 rfl;go_wp2_with fail;refine (hQ2 P3 HST (bl HL.out)).mono ?_;rintro e wz ⟨rfl,HST⟩;go_wp2_with fail;go_end0;exact fin HE HH HB HST
  ·have g0:(x0.2==[])=false:=by simpa using h0
   have g2:(x2.2==[])=false:=F9
   obtain⟨HE,HL⟩:=pie (T:=bs++[[102,111,114,32]].flatten++[x0.2,[59,32]].flatten++x1.2++[[59,32]].flatten++[x2.2,[32]].flatten++x3.2) Dr HN.out;have HX:Hid (x0.2.length<=1099511627776/\x2.2.length<=1099511627776):=hid ⟨De,De⟩;clear h0 h2;go_wp2_with fail;refine (fQ2 [[102,111,114,32]] HST (bl (bc (bc (bc (bc (bc HL.out)))))) Cp rfl).mono ?_;rintro e wz ⟨rfl,HST⟩;have HSK:Hid (∀ w',Below wz.heap.size wz w'->w'.cell? ⟨kb,ko,none⟩=some (.int .i64 (c0:Int))/\w'.cell? ⟨kb,ko+2,none⟩=some (.int .i64 (c2:Int))):=hid (fun w' h=>⟨kc0 HKA (kQ2 HST h) rfl,kc HKA (kQ2 HST h) 2 rfl⟩);have hb1:=(J' wz.heap.size wz).drew;go_upto_region 20 with fail;refine wp_region_held_drew (S:=fun w'=>w'.cell? ⟨kb,ko,none⟩=some (.int .i64 (c0:Int))/\w'.cell? ⟨kb,ko+2,none⟩=some (.int .i64 (c2:Int))) Ci ?_ (fun hHeld=>?_)
   ·exact HSK.out _ hb1
   refine tk 0 ?_;try simp only [Act.put,ls]
   refine tk 1 ?_;try simp only [Act.put,ls]
   refine tk 2 ?_;try simp only [Act.put,ls]
   refine tk 3 ?_;try simp only [Act.put,ls]
   refine tk 5 ?_;try simp only [Act.put,ls]
   refine tk 6 ?_;try simp only [Act.put,ls]
   refine tk 7 ?_;try simp only [Act.put,ls]
   refine tk 8 ?_;try simp only [Act.put,ls]
   refine wpAnyH_ready (rs:=[4]) Ci Cm (AllReadyH.cons (o:=?_) ?_ (fun K hK=>?_) AllReadyH.nil)
   rotate_left
   ·exact Ax
   go_simp;go_at_call 90;refine (bU (w:=wz.drew) P0.out.1 (HST.out.1.later hb1) HX.out.1).mono ?_;rintro e wa ⟨rfl,hs,hb⟩;have hb2:=hb1.trans hb;clear hs hb;go_wp2_with fail;refine hK.out _ _ ?_ (fun hHeld4=>?_)
   ·exact HSK.out _ hb2
   clear hK K
   try simp only [Act.put,ls]
   refine wpAnyH_ready (rs:=[9]) Ci Cm (AllReadyH.cons (o:=?_) ?_ (fun K hK=>?_) AllReadyH.nil)
   rotate_left
   ·exact Ax
   go_simp;go_at_call 90;refine (bU (w:=wa) P2.out.1 (HST.out.1.later hb2) HX.out.2).mono ?_;rintro e wb ⟨rfl,hs,hb⟩;have hb3:=dA hb2 hb;clear hs hb;go_wp2_with fail;refine hK.out _ _ ?_ (fun hHeld9=>?_)
   ·exact HSK.out _ hb3
   clear hK K
   try simp only [Act.put,ls]
   refine tk 10 ?_;try simp only [Act.put,ls]
   refine tk 11 ?_;try simp only [Act.put,ls]
   refine wpAnyH_done Ci ?_ _;replace HST:=kQ2 HST hb3;clear hb1 hb2 hb3 HSK;go_wp2_with fail;refine (fQ2 [x0.2,[59,32]] HST (bl (bc (bc (bc (bc HL.out))))) Cp rfl).mono ?_;rintro e wz ⟨rfl,HST⟩;have k1:=kc HKA HST (c:=c1) 1 rfl;go_wp2_with fail;refine (hQ2 P1 HST (bl (bc (bc (bc HL.out))))).mono ?_;rintro e wz ⟨rfl,HST⟩;go_wp2_with fail;refine (fQ2 [[59,32]] HST (bl (bc (bc HL.out))) Cp rfl).mono ?_;rintro e wz ⟨rfl,HST⟩;go_wp2_with fail;refine (fQ2 [x2.2,[32]] HST (bl (bc HL.out)) Cp rfl).mono ?_;rintro e wz ⟨rfl,HST⟩;have k3:=kc HKA HST (c:=c3) 3 rfl;go_wp2_with fail;refine (hQ2 P3 HST (bl HL.out)).mono ?_;rintro e wz ⟨rfl,HST⟩;go_wp2_with fail;go_end0;exact fin HE HH HB HST
 ·have hm:ks.length=3:=by have h3:(ks.length:Int)=3:=HR.out.2 Ch;omega
  obtain⟨c0,c1,c2,rfl⟩:=mQ1 hm;obtain⟨x0,x1,x2,rfl⟩:=mQ1 (hlt.symm.trans hm);clear hm hlt;obtain⟨kb,ko,rfl⟩:=adr HKA (c:=c0) rfl;replace hcap:3<=cap:=hcap;have hcn1:cap≠1:=Cf
  have hcd1:decide (cap=1)=false:=Cn
  by_cases hq:q=[]
  ·have hq1:(q==[])=true:=by simpa using hq
   obtain⟨HE,HL⟩:=pie (T:=bs++[[102,111,114,32]].flatten++xE [x1,x2] [[114,97,110,103,101,32],[32],[]]) Em HN.out;replace hq:=hid hq;have qw:=qc HB HST;go_wp2_with fail;refine (fQ2 [[102,111,114,32]] HST (bl (bc HL.out)) Cp rfl).mono ?_;rintro e wz ⟨rfl,HST⟩;have qw:=qc HB HST;go_wp2_with fail;refine (gQ2 [[114,97,110,103,101,32],[32],[]] (ks:=[c1,c2]) (ts:=[x1,x2]) (a:=some ⟨kb,ko+1,none⟩) (yQ2 HK 1 2) (zQ2 HKA 1 2) HST (bl HL.out) Cm Cp rfl).mono ?_;rintro e wz ⟨rfl,HST⟩;go_wp2_with fail;go_end0;exact fin HE HH HB HST
  ·have hq1:(q==[])=false:=by simpa using hq
   obtain⟨HE,HL⟩:=pie (T:=bs++[[102,111,114,32]].flatten++xE [x0] [[],(32::(q++[32]))]++xE [x1,x2] [[114,97,110,103,101,32],[32],[]]) Em HN.out;replace hq:=hid hq;have qw:=qc HB HST;go_wp2_with fail;refine (fQ2 [[102,111,114,32]] HST (bl (bc (bc HL.out))) Cp rfl).mono ?_;rintro e wz ⟨rfl,HST⟩;have HSQ:Hid (∀ w',XQ0 b wz w'->w'.cell? ⟨w.heap.size,2,none⟩=some (.string ⟨q.toArray⟩)):=hid (fun w' h=>((HB.out.2.kept HST.out.2.2).kept h).c2);have hc1:(1:Int)<=(cap:Int):=Cf
   have hq8:¬ 9223372036854775807 < 1+q.length:=Cf
   have hq9:¬ 9223372036854775807 < q.length+1+1:=Cf
   have hq10:¬ 9223372036854775807 < 1+q.length+1:=Cf
   have qw:=HSQ.out _ (XQ0.refl _ _);have hb1:=(J' wz.heap.size wz).drew;go_upto_region 32 with fail;clear qw;refine wp_region_held_drew (S:=fun w'=>w'.cell? ⟨w.heap.size,2,none⟩=some (.string ⟨q.toArray⟩)) Ci ?_ (fun hHeld=>?_)
   ·exact HSQ.out _ (XQ0.of_below hb1)
   refine tk 0 ?_;try simp only [Act.put,ls]
   refine tk 1 ?_;try simp only [Act.put,ls]
   refine tk 2 ?_;try simp only [Act.put,ls]
   refine tk 3 ?_;try simp only [Act.put,ls]
   refine tk 4 ?_;try simp only [Act.put,ls]
   refine tk 5 ?_;try simp only [Act.put,ls]
   refine tk 6 ?_;try simp only [Act.put,ls]
   refine wpAnyH_ready (rs:=[7]) Ci Cm (AllReadyH.cons (o:=?_) ?_ (fun K hK=>?_) AllReadyH.nil)
   rotate_left
   ·exact Ax
   go_simp;go_wp2_with fail;have hb2:=hb1.alloc hb1.size (Obj.cells #[.string ⟨#[]⟩,.string ⟨(32::(q++[32])).toArray⟩] 9);refine hK.out _ _ ?_ (fun hHeld7=>?_)
   ·exact HSQ.out _ (XQ0.of_below hb2)
   clear hK K
   try simp only [Act.put,ls]
   refine wpAnyH_ready (rs:=[8]) Ci Cm (AllReadyH.cons (o:=?_) ?_ (fun K hK=>?_) AllReadyH.nil)
   rotate_left
   ·exact Ax
   go_simp;go_at_call 84;refine (gQ2 [[],(32::(q++[32]))] (ks:=[c0]) (ts:=[x0]) (a:=some ⟨kb,ko,none⟩) (yQ2 HK 0 1) (zQ2 HKA 0 1) (kQ2 HST hb1) (bl (bc HL.out)) Cm Cp rfl).mono ?_;rintro e wa ⟨rfl,HSU⟩;have hkz:XQ0 b w1 wa:=HSU.out.2.2;go_wp2_with fail;refine hK.out _ _ ?_ (fun hHeld8=>?_)
   ·exact (HB.out.2.kept hkz).c2
   clear hK K
   try simp only [Act.put,ls]
   refine wpAnyH_done Ci ?_ _;replace HST:=HSU;clear hb1 hb2 HSQ HSU;have qw:=qc HB HST;go_wp2_with fail;refine (gQ2 [[114,97,110,103,101,32],[32],[]] (ks:=[c1,c2]) (ts:=[x1,x2]) (a:=some ⟨kb,ko+1,none⟩) (yQ2 HK 1 2) (zQ2 HKA 1 2) HST (bl HL.out) Cm Cp rfl).mono ?_;rintro e wz ⟨rfl,HST⟩;go_wp2_with fail;go_end0;exact fin HE HH HB HST
theorem LQ1 (K:Nat) (n:Int) (q:List UInt8) (a:Option Addr) (cap:Nat) {ks:List Nat}{ts:List Tx} (hK:KL l raw E lv rv ev ks ts) (hcap:ks.length<=cap) (hA:YQ0 b a ks w) (H:St B b l raw E lv rv ev bs w) (hn:bs.length+(TQ0 K q ts).length<=1099511627776) (hql:q.length<=1048576) (hkl:ks.length<=100000000) (har:(gD K).1<=(ks.length:Int)/\((gD K).2=false->(ks.length:Int)=(gD K).1)) (hKK:K=49∨K=50∨K=51∨K=52∨K=53∨K=54∨K=55∨K=56∨K=57∨K=58∨K=59∨K=60∨K=61∨K=62∨K=63∨K=64∨K=65∨K=66∨K=67∨K=68) :
  Calls Tryz.prog 55 #[.pointer (some ⟨b,0,none⟩),.agg #[.int .u8 (K:Int),.int .i64 n,.string ⟨q.toArray⟩],.slice a ks.length cap] w fun e w'=>e=.returned (.tuple #[])/\Stp B b l raw E lv rv ev (bs++TQ0 K q ts) w w':=by
 have HCD:=hid (fun w1 (hA:YQ0 b a ks w1) (H:St B b l raw E lv rv ev bs w1) (hh:K=59∨K=60∨K=61∨K=65∨K=66)=>JQ2 (w:=w1) K n q a cap hK hcap hA H hn hql hkl har hh);have hlt:=hK.len;obtain⟨Z,hZ⟩:∃ Z,Z=TQ0 K q ts:=⟨_,rfl⟩;rw [<- hZ] at hn HCD ⊢;have HZ:=hid hZ;have HN:=hid hn;have HK:=hid hK;have HH:=hid H;have HA:=hid hA;have HR:=hid har;replace hKK:=hid hKK;have hb:=(J' w.heap.size w).alloc (C' _) (Obj.cells #[.int .u8 (K:Int),.int .i64 n,.string ⟨q.toArray⟩] 46);have hx:Box b w.heap.size (K:Int) q (w.alloc (Obj.cells #[.int .u8 (K:Int),.int .i64 n,.string ⟨q.toArray⟩] 46)):=⟨Ez,n,heap_alloc_new w _⟩;have HB:=hid (And.intro hb hx);have HX1:Hid ((w.alloc (Obj.cells #[.int .u8 (K:Int),.int .i64 n,.string ⟨q.toArray⟩] 46)).heap[w.heap.size]?=some (Obj.cells #[.int .u8 (K:Int),.int .i64 n,.string ⟨q.toArray⟩] 46 (0,0))):=hid (heap_alloc_new w _);have HST:=hid (Stp.refl (H.later hb));clear hZ hn hK H hA har hb hx;go_enter Tryz.func55,Tryz.ntmps55;go_upto_region 1 with fail;generalize w.alloc (Obj.cells #[.int .u8 (K:Int),.int .i64 n,.string ⟨q.toArray⟩] 46)=w1 at *;have HKA:=hid (HA.out.kept (XQ0.of_below HB.out.1));have b0:=HB.out.2.c0;rcases hKK.out with rfl|rfl|rfl|rfl|rfl|rfl|rfl|rfl|rfl|rfl|rfl|rfl|rfl|rfl|rfl|rfl|rfl|rfl|rfl|rfl
 ·have hm:ks.length=0:=by have h3:(ks.length:Int)=0:=HR.out.2 Ch;omega
  obtain rfl:=Z' hm;obtain rfl:=Z' hlt.symm;clear hlt hm;obtain⟨HE,HL⟩:=pie (T:=bs++[[59]].flatten) Cj HN.out;go_wp2_with fail;refine (fQ2 [[59]] HST (bl HL.out) Cp rfl).mono ?_;rintro e wz ⟨rfl,HST⟩;go_wp2_with fail;go_end0;exact fin HE HH HB HST
 ·have hm:ks.length=1:=by have h3:(ks.length:Int)=1:=HR.out.2 Ch;omega
  obtain⟨c0,rfl⟩:=gQ1 hm;obtain⟨x0,rfl⟩:=gQ1 (hlt.symm.trans hm);clear hm hlt;obtain⟨kb,ko,rfl⟩:=adr HKA (c:=c0) rfl;have P0:=iQ2 HK 0 (c:=c0) (x:=x0) rfl rfl;obtain⟨HE,HL⟩:=pie (T:=bs++x0.2) Cj HN.out;have k0:=kc0 HKA HST (c:=c0) rfl;go_wp2_with fail;refine (hQ2 P0 HST (bl HL.out)).mono ?_;rintro e wz ⟨rfl,HST⟩;go_wp2_with fail;go_end0;exact fin HE HH HB HST
 ·have hm:ks.length=2:=by have h3:(ks.length:Int)=2:=HR.out.2 Ch;omega
  obtain⟨c0,c1,rfl⟩:=hQ1 hm;obtain⟨x0,x1,rfl⟩:=hQ1 (hlt.symm.trans hm);clear hm hlt;obtain⟨kb,ko,rfl⟩:=adr HKA (c:=c0) rfl;obtain⟨HE,HL⟩:=pie (T:=bs++xE [x0,x1] [[],[32,60,45,32],[]]) Cj HN.out;go_wp2_with fail;refine (gQ2 [[],[32,60,45,32],[]] HK HKA HST (bl HL.out) hkl Cp rfl).mono ?_;rintro e wz ⟨rfl,HST⟩;go_wp2_with fail;go_end0;exact fin HE HH HB HST
 ·have hm:ks.length=1:=by have h3:(ks.length:Int)=1:=HR.out.2 Ch;omega
  obtain⟨c0,rfl⟩:=gQ1 hm;obtain⟨x0,rfl⟩:=gQ1 (hlt.symm.trans hm);clear hm hlt;obtain⟨kb,ko,rfl⟩:=adr HKA (c:=c0) rfl;obtain⟨HE,HL⟩:=pie (T:=bs++xE [x0] [[],q]) Cj HN.out;have qw:=qc HB HST;go_wp2_with fail;refine (gQ2 [[],q] HK HKA HST (bl HL.out) hkl Cp rfl).mono ?_;rintro e wz ⟨rfl,HST⟩;go_wp2_with fail;go_end0;exact fin HE HH HB HST
 ·have hm:ks.length=2:=by have h3:(ks.length:Int)=2:=HR.out.2 Ch;omega
  obtain⟨c0,c1,rfl⟩:=hQ1 hm;obtain⟨x0,x1,rfl⟩:=hQ1 (hlt.symm.trans hm);clear hm hlt;obtain⟨kb,ko,rfl⟩:=adr HKA (c:=c0) rfl;obtain⟨HE,HL⟩:=pie (T:=bs++xE [x0,x1] [[],(32::(q++[32])),[]]) Cj HN.out;have qw:=qc HB HST;go_wp2_with fail;refine (gQ2 [[],(32::(q++[32])),[]] HK HKA HST (bl HL.out) hkl Cp rfl).mono ?_;rintro e wz ⟨rfl,HST⟩;go_wp2_with fail;go_end0;exact fin HE HH HB HST
 ·have hm:ks.length=1:=by have h3:(ks.length:Int)=1:=HR.out.2 Ch;omega
  obtain⟨c0,rfl⟩:=gQ1 hm;obtain⟨x0,rfl⟩:=gQ1 (hlt.symm.trans hm);clear hm hlt;obtain⟨kb,ko,rfl⟩:=adr HKA (c:=c0) rfl;obtain⟨HE,HL⟩:=pie (T:=bs++xE [x0] [[103,111,32],[]]) Cj HN.out;go_wp2_with fail;refine (gQ2 [[103,111,32],[]] HK HKA HST (bl HL.out) hkl Cp rfl).mono ?_;rintro e wz ⟨rfl,HST⟩;go_wp2_with fail;go_end0;exact fin HE HH HB HST
 ·have hm:ks.length=1:=by have h3:(ks.length:Int)=1:=HR.out.2 Ch;omega
  obtain⟨c0,rfl⟩:=gQ1 hm;obtain⟨x0,rfl⟩:=gQ1 (hlt.symm.trans hm);clear hm hlt;obtain⟨kb,ko,rfl⟩:=adr HKA (c:=c0) rfl;obtain⟨HE,HL⟩:=pie (T:=bs++xE [x0] [[100,101,102,101,114,32],[]]) Cj HN.out;go_wp2_with fail;refine (gQ2 [[100,101,102,101,114,32],[]] HK HKA HST (bl HL.out) hkl Cp rfl).mono ?_;rintro e wz ⟨rfl,HST⟩;go_wp2_with fail;go_end0;exact fin HE HH HB HST
 ·have hm:ks.length=1:=by have h3:(ks.length:Int)=1:=HR.out.2 Ch;omega
  obtain⟨c0,rfl⟩:=gQ1 hm;obtain⟨x0,rfl⟩:=gQ1 (hlt.symm.trans hm);clear hm hlt;obtain⟨kb,ko,rfl⟩:=adr HKA (c:=c0) rfl;have P0:=iQ2 HK 0 (c:=c0) (x:=x0) rfl rfl;obtain⟨HE,HL⟩:=pie (T:=bs++[[114,101,116,117,114,110]].flatten++WQ0 [32] x0.2 []) Cj HN.out;go_wp2_with fail;refine (fQ2 [[114,101,116,117,114,110]] HST (bl (bc HL.out)) Cp rfl).mono ?_;rintro e wz ⟨rfl,HST⟩;have k0:=kc0 HKA HST (c:=c0) rfl;go_wp2_with fail;refine (lQ2 P0 [32] HST (bl HL.out)).mono ?_;rintro e wz ⟨rfl,HST⟩;go_wp2_with fail;go_end0;exact fin HE HH HB HST
 ·have hm:ks.length=1:=by have h3:(ks.length:Int)=1:=HR.out.2 Ch;omega
  obtain⟨c0,rfl⟩:=gQ1 hm;obtain⟨x0,rfl⟩:=gQ1 (hlt.symm.trans hm);clear hm hlt;obtain⟨kb,ko,rfl⟩:=adr HKA (c:=c0) rfl;have P0:=iQ2 HK 0 (c:=c0) (x:=x0) rfl rfl;obtain⟨HE,HL⟩:=pie (T:=bs++[q].flatten++WQ0 [32] x0.2 []) Cj HN.out;have qw:=qc HB HST;go_wp2_with fail;refine (fQ2 [q] HST (bl (bc HL.out)) Cp rfl).mono ?_;rintro e wz ⟨rfl,HST⟩;have k0:=kc0 HKA HST (c:=c0) rfl;go_wp2_with fail;refine (lQ2 P0 [32] HST (bl HL.out)).mono ?_;rintro e wz ⟨rfl,HST⟩;go_wp2_with fail;go_end0;exact fin HE HH HB HST
 ·have hm:ks.length=1:=by have h3:(ks.length:Int)=1:=HR.out.2 Ch;omega
  obtain⟨c0,rfl⟩:=gQ1 hm;obtain⟨x0,rfl⟩:=gQ1 (hlt.symm.trans hm);clear hm hlt;obtain⟨kb,ko,rfl⟩:=adr HKA (c:=c0) rfl;have P0:=iQ2 HK 0 (c:=c0) (x:=x0) rfl rfl;obtain⟨HE,HL⟩:=pie (T:=bs++[[123]].flatten++WQ0 [10] x0.2 []++[[125]].flatten) Cj HN.out;go_wp2_with fail;refine (fQ2 [[123]] HST (bl (bc (bc HL.out))) Cp rfl).mono ?_;rintro e wz ⟨rfl,HST⟩;have k0:=kc0 HKA HST (c:=c0) rfl;go_wp2_with fail;refine (lQ2 P0 [10] HST (bl (bc HL.out))).mono ?_;rintro e wz ⟨rfl,HST⟩;go_wp2_with fail;refine (fQ2 [[125]] HST (bl HL.out) Cp rfl).mono ?_;rintro e wz ⟨rfl,HST⟩;go_wp2_with fail;go_end0;exact fin HE HH HB HST
 ·clear hlt;have b1:w1.cell? ⟨w.heap.size,1,none⟩=some (.int .i64 n):=by unfold World.cell?;rw [HX1.out];rfl
  have b2:=HB.out.2.c2;go_wp2_with fail;refine (HCD.out w1 HKA.out HST.out.1 Cm).mono ?_;rintro e wz ⟨rfl,hs⟩;have hs2:=Stp.ahead HH.out HB.out.1 hs;go_wp2_with fail;go_end0;exact⟨rfl,hs2⟩
 ·clear hlt;have b1:w1.cell? ⟨w.heap.size,1,none⟩=some (.int .i64 n):=by unfold World.cell?;rw [HX1.out];rfl
  have b2:=HB.out.2.c2;go_wp2_with fail;refine (HCD.out w1 HKA.out HST.out.1 Cm).mono ?_;rintro e wz ⟨rfl,hs⟩;have hs2:=Stp.ahead HH.out HB.out.1 hs;go_wp2_with fail;go_end0;exact⟨rfl,hs2⟩
 ·clear hlt;have b1:w1.cell? ⟨w.heap.size,1,none⟩=some (.int .i64 n):=by unfold World.cell?;rw [HX1.out];rfl
  have b2:=HB.out.2.c2;go_wp2_with fail;refine (HCD.out w1 HKA.out HST.out.1 Cm).mono ?_;rintro e wz ⟨rfl,hs⟩;have hs2:=Stp.ahead HH.out HB.out.1 hs;go_wp2_with fail;go_end0;exact⟨rfl,hs2⟩
 ·have hm:ks.length=2:=by have h3:(ks.length:Int)=2:=HR.out.2 Ch;omega
  obtain⟨c0,c1,rfl⟩:=hQ1 hm;obtain⟨x0,x1,rfl⟩:=hQ1 (hlt.symm.trans hm);clear hm hlt;obtain⟨kb,ko,rfl⟩:=adr HKA (c:=c0) rfl;have P0:=iQ2 HK 0 (c:=c0) (x:=x0) rfl rfl;have P1:=iQ2 HK 1 (c:=c1) (x:=x1) rfl rfl;by_cases h0:x0.2=[]
  ·have g0:(x0.2==[])=true:=by simpa using h0
   obtain⟨HE,HL⟩:=pie (T:=bs++[[100,101,102,97,117,108,116,58,10]].flatten++x1.2) Dy HN.out;replace h0:=hid h0;have k0:=kc0 HKA HST (c:=c0) rfl;go_wp2_with fail;refine (IQ2 P0 HST (by rw [h0.out];simp)).mono ?_;rintro e wz ⟨rfl,HST⟩;go_wp2_with fail;refine (fQ2 [[100,101,102,97,117,108,116,58,10]] HST (bl (bc HL.out)) Cp rfl).mono ?_;rintro e wz ⟨rfl,HST⟩;have k1:=kc HKA HST (c:=c1) 1 rfl;go_wp2_with fail;refine (hQ2 P1 HST (bl HL.out)).mono ?_;rintro e wz ⟨rfl,HST⟩;go_wp2_with fail;go_end0;exact fin HE HH HB HST
  ·have g0:(x0.2==[])=false:=by simpa using h0
   obtain⟨HE,HL⟩:=pie (T:=bs++[[99,97,115,101,32],x0.2,[58,10]].flatten++x1.2) Dy HN.out;replace h0:=hid h0;have k0:=kc0 HKA HST (c:=c0) rfl;go_wp2_with fail;refine (IQ2 P0 HST De).mono ?_;rintro e wz ⟨rfl,HST⟩;go_wp2_with fail;refine (fQ2 [[99,97,115,101,32],x0.2,[58,10]] HST (bl (bc HL.out)) Cp rfl).mono ?_;rintro e wz ⟨rfl,HST⟩;have k1:=kc HKA HST (c:=c1) 1 rfl;go_wp2_with fail;refine (hQ2 P1 HST (bl HL.out)).mono ?_;rintro e wz ⟨rfl,HST⟩;go_wp2_with fail;go_end0;exact fin HE HH HB HST
 ·have hm:ks.length=1:=by have h3:(ks.length:Int)=1:=HR.out.2 Ch;omega
  obtain⟨c0,rfl⟩:=gQ1 hm;obtain⟨x0,rfl⟩:=gQ1 (hlt.symm.trans hm);clear hm hlt;obtain⟨kb,ko,rfl⟩:=adr HKA (c:=c0) rfl;obtain⟨HE,HL⟩:=pie (T:=bs++xE [x0] [[115,101,108,101,99,116,32,123,10],[125]]) Cj HN.out;go_wp2_with fail;refine (gQ2 [[115,101,108,101,99,116,32,123,10],[125]] HK HKA HST (bl HL.out) hkl Cp rfl).mono ?_;rintro e wz ⟨rfl,HST⟩;go_wp2_with fail;go_end0;exact fin HE HH HB HST
 ·have hm:ks.length=2:=by have h3:(ks.length:Int)=2:=HR.out.2 Ch;omega
  obtain⟨c0,c1,rfl⟩:=hQ1 hm;obtain⟨x0,x1,rfl⟩:=hQ1 (hlt.symm.trans hm);clear hm hlt;obtain⟨kb,ko,rfl⟩:=adr HKA (c:=c0) rfl;have P0:=iQ2 HK 0 (c:=c0) (x:=x0) rfl rfl;have P1:=iQ2 HK 1 (c:=c1) (x:=x1) rfl rfl;by_cases h0:x0.2=[]
  ·have g0:(x0.2==[])=true:=by simpa using h0
   obtain⟨HE,HL⟩:=pie (T:=bs++[[100,101,102,97,117,108,116,58,10]].flatten++x1.2) Dy HN.out;replace h0:=hid h0;have k0:=kc0 HKA HST (c:=c0) rfl;go_wp2_with fail;refine (IQ2 P0 HST (by rw [h0.out];simp)).mono ?_;rintro e wz ⟨rfl,HST⟩;go_wp2_with fail;refine (fQ2 [[100,101,102,97,117,108,116,58,10]] HST (bl (bc HL.out)) Cp rfl).mono ?_;rintro e wz ⟨rfl,HST⟩;have k1:=kc HKA HST (c:=c1) 1 rfl;go_wp2_with fail;refine (hQ2 P1 HST (bl HL.out)).mono ?_;rintro e wz ⟨rfl,HST⟩;go_wp2_with fail;go_end0;exact fin HE HH HB HST
  ·have g0:(x0.2==[])=false:=by simpa using h0
   obtain⟨HE,HL⟩:=pie (T:=bs++[[99,97,115,101,32],x0.2,[58,10]].flatten++x1.2) Dy HN.out;replace h0:=hid h0;have k0:=kc0 HKA HST (c:=c0) rfl;go_wp2_with fail;refine (IQ2 P0 HST De).mono ?_;rintro e wz ⟨rfl,HST⟩;go_wp2_with fail;refine (fQ2 [[99,97,115,101,32],x0.2,[58,10]] HST (bl (bc HL.out)) Cp rfl).mono ?_;rintro e wz ⟨rfl,HST⟩;have k1:=kc HKA HST (c:=c1) 1 rfl;go_wp2_with fail;refine (hQ2 P1 HST (bl HL.out)).mono ?_;rintro e wz ⟨rfl,HST⟩;go_wp2_with fail;go_end0;exact fin HE HH HB HST
 ·clear hlt;have b1:w1.cell? ⟨w.heap.size,1,none⟩=some (.int .i64 n):=by unfold World.cell?;rw [HX1.out];rfl
  have b2:=HB.out.2.c2;go_wp2_with fail;refine (HCD.out w1 HKA.out HST.out.1 Cm).mono ?_;rintro e wz ⟨rfl,hs⟩;have hs2:=Stp.ahead HH.out HB.out.1 hs;go_wp2_with fail;go_end0;exact⟨rfl,hs2⟩
 ·clear hlt;have b1:w1.cell? ⟨w.heap.size,1,none⟩=some (.int .i64 n):=by unfold World.cell?;rw [HX1.out];rfl
  have b2:=HB.out.2.c2;go_wp2_with fail;refine (HCD.out w1 HKA.out HST.out.1 Cm).mono ?_;rintro e wz ⟨rfl,hs⟩;have hs2:=Stp.ahead HH.out HB.out.1 hs;go_wp2_with fail;go_end0;exact⟨rfl,hs2⟩
 ·have hm:ks.length=2:=by have h3:(ks.length:Int)=2:=HR.out.2 Ch;omega
  obtain⟨c0,c1,rfl⟩:=hQ1 hm;obtain⟨x0,x1,rfl⟩:=hQ1 (hlt.symm.trans hm);clear hm hlt;obtain⟨kb,ko,rfl⟩:=adr HKA (c:=c0) rfl;obtain⟨HE,HL⟩:=pie (T:=bs++xE [x0,x1] [[],[58,32],[]]) Cj HN.out;go_wp2_with fail;refine (gQ2 [[],[58,32],[]] HK HKA HST (bl HL.out) hkl Cp rfl).mono ?_;rintro e wz ⟨rfl,HST⟩;go_wp2_with fail;go_end0;exact fin HE HH HB HST
 ·have hm:ks.length=1:=by have h3:(ks.length:Int)=1:=HR.out.2 Ch;omega
  obtain⟨c0,rfl⟩:=gQ1 hm;obtain⟨x0,rfl⟩:=gQ1 (hlt.symm.trans hm);clear hm hlt;obtain⟨kb,ko,rfl⟩:=adr HKA (c:=c0) rfl;have P0:=iQ2 HK 0 (c:=c0) (x:=x0) rfl rfl;obtain⟨HE,HL⟩:=pie (T:=bs++x0.2) Cj HN.out;have k0:=kc0 HKA HST (c:=c0) rfl;go_wp2_with fail;refine (hQ2 P0 HST (bl HL.out)).mono ?_;rintro e wz ⟨rfl,HST⟩;go_wp2_with fail;go_end0;exact fin HE HH HB HST
end Rnd
