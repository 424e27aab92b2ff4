import Derived.Deep.RegionHeld
import Derived.Test.YtfmpphplbdojbaaGreatDoorQBJ
import Derived.Test.YtfmpphplbdojbaaGreatDoorQAR
import Derived.Test.YtfmpphplbdojbaaGreatDoorQBE
namespace Go.Proofs.YtfmpphplbdojbaaGreatDoor
open Lib(hid)
set_option linter.all false
set_option maxHeartbeats 40000000
set_option maxRecDepth 100000
namespace Rnd
open Go.RowKit
open Grd (Pt Fo)
variable {w w' w0 wi:World}{B b:Nat}{lv rv ev:Value}{l:List Pt}{raw:Nat->List UInt8}{E:List Nat}{bs t:List UInt8}{c:Nat}{X:Prop}{a:Option Addr}{cap n kb ko:Nat}{ks:List Nat}{ts:List Tx}
theorem bl {A p:List UInt8}{M:Nat} (h:(A++p).length<=M):A.length+p.length<=M:=by rwa [O'] at h
theorem bc {A p:List UInt8}{M:Nat} (h:(A++p).length<=M):A.length<=M:=by have:=bl h;omega
theorem pie {Z T:List UInt8}{M:Nat} (h:bs++Z=T) (hn:bs.length+Z.length<=M):Hid (bs++Z=T)/\Hid (T.length<=M):=⟨hid h,hid (by rw [<- h,O'];exact hn)⟩
abbrev Sth (B b:Nat) (l:List Pt) (raw:Nat->List UInt8) (E:List Nat) (lv rv ev:Value) (bs:List UInt8) (w w':World):Prop:=Hid (Stp B b l raw E lv rv ev bs w w')
def GQ2 (B b:Nat) (l:List Pt) (raw:Nat->List UInt8) (E:List Nat) (lv rv ev:Value) (bs:List UInt8) (w0:World) (e:Ending) (w':World):Prop:=e=.returned (.tuple #[])/\Sth B b l raw E lv rv ev bs w0 w'
theorem thn (S:Sth B b l raw E lv rv ev bs w0 wi) {bs':List UInt8}{e:Ending} (h:e=.returned (.tuple #[])/\Stp B b l raw E lv rv ev bs' wi w'):GQ2 B b l raw E lv rv ev bs' w0 e w':=⟨h.1,hid (S.out.then h.2)⟩
theorem hQ2 (P:Hid (lQ1 l raw E lv rv ev c t/\X)) (S:Sth B b l raw E lv rv ev bs w0 wi) (h:bs.length+t.length<=1099511627776) :
  Calls Tryz.prog 36 #[.pointer (some ⟨b,0,none⟩),.int .i64 (c:Int)] wi (GQ2 B b l raw E lv rv ev (bs++t) w0):=(P.out.1 B b bs wi S.out.1 h).mono fun _ _ h=>thn S h
theorem fQ2 (ss:List (List UInt8)) {cs:Array Value} (S:Sth B b l raw E lv rv ev bs w0 wi) (h:bs.length+ss.flatten.length<=1099511627776) (hcs:cs=(ss.map aQ1).toArray) (hn:n=ss.length) (hc:n<=1000:=by simp) :
  Calls Tryz.prog 51 #[.pointer (some ⟨b,0,none⟩),.slice (some ⟨wi.heap.size,0,none⟩) n n] (wi.alloc (.cells cs 9 (0,0))) (GQ2 B b l raw E lv rv ev (bs++ss.flatten) w0):=(UQ0 ss cs n hcs hn S.out.1 h hc).mono fun _ _ h=>thn S h
theorem lQ2 (P:Hid (lQ1 l raw E lv rv ev c t/\X)) (u:List UInt8) (S:Sth B b l raw E lv rv ev bs w0 wi) (h:bs.length+(WQ0 u t []).length<=1099511627776) :
  Calls Tryz.prog 87 #[.pointer (some ⟨b,0,none⟩),.string ⟨u.toArray⟩,.int .i64 (c:Int)] wi (GQ2 B b l raw E lv rv ev (bs++WQ0 u t []) w0):=(dQ1 P.out.1 u S.out.1 h).mono fun _ _ h=>thn S h
theorem nQ2 (P:Hid (lQ1 l raw E lv rv ev c t/\X)) (u:List UInt8) (S:Sth B b l raw E lv rv ev bs w0 wi) (h:bs.length+(WQ0 [] t u).length<=1099511627776) :
  Calls Tryz.prog 86 #[.pointer (some ⟨b,0,none⟩),.int .i64 (c:Int),.string ⟨u.toArray⟩] wi (GQ2 B b l raw E lv rv ev (bs++WQ0 [] t u) w0):=(eQ1 P.out.1 u S.out.1 h).mono fun _ _ h=>thn S h
theorem YQ2 {x:Tx} (P:Hid (lQ1 l raw E lv rv ev c x.2/\∃ p,l[c]?=some p/\p.k=x.1)) (S:Sth B b l raw E lv rv ev bs w0 wi) (h:bs.length+(x.2++(if x.1=27 then [32] else [])).length<=1099511627776) :
  Calls Tryz.prog 89 #[.pointer (some ⟨b,0,none⟩),.int .i64 (c:Int)] wi (GQ2 B b l raw E lv rv ev (bs++(x.2++(if x.1=27 then [32] else []))) w0):=by
 obtain⟨h1,p,hp,hk⟩:=P.out;rw [<- hk] at h ⊢;exact (CV h1 hp S.out.1 h).mono fun _ _ h=>thn S h
theorem xQ2 (HK:Hid (KL l raw E lv rv ev ks ts)) (HA:Hid (YQ0 b a ks w0)) (S:Sth B b l raw E lv rv ev bs w0 wi) (h:bs.length+(fQ1 ts).length<=1099511627776) (hkl:ks.length<=100000000) :
  Calls Tryz.prog 85 #[.pointer (some ⟨b,0,none⟩),.slice a ks.length cap] wi (GQ2 B b l raw E lv rv ev (bs++fQ1 ts) w0):=(kQ1 a cap HK.out (HA.out.kept S.out.2.2) S.out.1 h Cf).mono fun _ _ h=>thn S h
theorem qQ2 (m:List UInt8) (HK:Hid (KL l raw E lv rv ev ks ts)) (HA:Hid (YQ0 b a ks w0)) (S:Sth B b l raw E lv rv ev bs w0 wi) (h:bs.length+(cQ1 m ts).length<=1099511627776) (hkl:ks.length<=100000000) :
  Calls Tryz.prog 88 #[.pointer (some ⟨b,0,none⟩),.slice a ks.length cap,.string ⟨m.toArray⟩] wi (GQ2 B b l raw E lv rv ev (bs++cQ1 m ts) w0):=(pV a cap m HK.out (HA.out.kept S.out.2.2) S.out.1 h Cf).mono fun _ _ h=>thn S h
theorem gQ2 (ss:List (List UInt8)) {cs:Array Value} (HK:Hid (KL l raw E lv rv ev ks ts)) (HA:Hid (YQ0 b a ks w0)) (S:Sth B b l raw E lv rv ev bs w0 wi) (h:bs.length+(xE ts ss).length<=1099511627776) (hkl:ks.length<=100000000) (hcs:cs=(ss.map aQ1).toArray) (hn:n=ss.length) (hc:n<=1000:=by simp) :
  Calls Tryz.prog 84 #[.pointer (some ⟨b,0,none⟩),.slice a ks.length cap,.slice (some ⟨wi.heap.size,0,none⟩) n n] (wi.alloc (.cells cs 9 (0,0))) (GQ2 B b l raw E lv rv ev (bs++xE ts ss) w0):=(ZQ0 a cap ss cs n hcs hn HK.out (HA.out.kept S.out.2.2) S.out.1 h Cf hc).mono fun _ _ h=>thn S h
theorem IQ2 (P:Hid (lQ1 l raw E lv rv ev c t/\X)) (S:Sth B b l raw E lv rv ev bs w0 wi) (h:t.length<=1099511627776) :
  Calls Tryz.prog 90 #[.pointer (some ⟨b,0,none⟩),.int .i64 (c:Int)] wi fun e w'=>e=.returned (.string ⟨t.toArray⟩)/\Sth B b l raw E lv rv ev bs w0 w':=by
 refine (bU P.out.1 S.out.1 h).mono ?_;rintro e w' ⟨he,hs,hb⟩;exact⟨he,hid (S.out.then ⟨hs,hb.mono (by have:=S.out.1.lo;omega),XQ0.of_below hb⟩)⟩
theorem kQ2 (S:Sth B b l raw E lv rv ev bs w0 wi) (hb:Below wi.heap.size wi w'):Sth B b l raw E lv rv ev bs w0 w':=hid (S.out.then (Stp.still S.out.1 hb))
theorem kc (HA:Hid (YQ0 b (some ⟨kb,ko,none⟩) ks w0)) (S:Sth B b l raw E lv rv ev bs w0 wi) (j:Nat) (hj:ks[j]?=some c):wi.cell? ⟨kb,ko+j,none⟩=some (.int .i64 (c:Int)):=(HA.out.kept S.out.2.2).cell' hj
theorem kc0 (HA:Hid (YQ0 b (some ⟨kb,ko,none⟩) ks w0)) (S:Sth B b l raw E lv rv ev bs w0 wi) (hj:ks[0]?=some c):wi.cell? ⟨kb,ko,none⟩=some (.int .i64 (c:Int)):=kc HA S 0 hj
theorem adr (HA:Hid (YQ0 b a ks w0)) (hj:ks[0]?=some c):∃ kb ko,a=some ⟨kb,ko,none⟩:=by obtain⟨kb,ko,h,_⟩:=HA.out.cell hj;exact⟨kb,ko,h⟩
theorem yQ2 (HK:Hid (KL l raw E lv rv ev ks ts)) (d m:Nat):Hid (KL l raw E lv rv ev ((ks.drop d).take m) ((ts.drop d).take m)):=hid (HK.out.sub d m)
theorem zQ2 (HA:Hid (YQ0 b (some ⟨kb,ko,none⟩) ks w0)) (d m:Nat):Hid (YQ0 b (some ⟨kb,ko+d,none⟩) ((ks.drop d).take m) w0):=hid (HA.out.sub d m)
theorem iQ2 (HK:Hid (KL l raw E lv rv ev ks ts)) (j:Nat) {x:Tx} (h1:ks[j]?=some c) (h2:ts[j]?=some x):Hid (lQ1 l raw E lv rv ev c x.2/\∃ p,l[c]?=some p/\p.k=x.1):=hid (HK.out.law j c x h1 h2)
theorem qc {K:Int}{q:List UInt8}{pb:Nat} (HB:Hid (Below w.heap.size w w0/\Box b pb K q w0)) (S:Sth B b l raw E lv rv ev bs w0 wi):wi.cell? ⟨pb,2,none⟩=some (.string ⟨q.toArray⟩):=(HB.out.2.kept S.out.2.2).c2
theorem fin {Z T:List UInt8}{K:Int}{q:List UInt8}{pb:Nat} (HE:Hid (bs++Z=T)) (HH:Hid (St B b l raw E lv rv ev bs w)) (HB:Hid (Below w.heap.size w w0/\Box b pb K q w0)) (S:Sth B b l raw E lv rv ev T w0 wi):Ending.returned (.tuple #[])=.returned (.tuple #[])/\Stp B b l raw E lv rv ev (bs++Z) w wi :=
 ⟨rfl,by rw [HE.out];exact Stp.ahead HH.out HB.out.1 S.out⟩
end Rnd
namespace Rnd
open Go.RowKit
open Grd (Pt Fo)
variable {w w':World}{B b:Nat}{lv rv ev:Value}{l:List Pt}{raw:Nat->List UInt8}{E:List Nat}{bs t:List UInt8}{c:Nat}
attribute [local simp] ByteArray.mk_append_mk
theorem gQ1 {α:Type}{l:List α} (h:l.length=1):∃ a0,l=[a0]:=by
 match l,h with
 | [a0],_=>exact⟨a0,rfl⟩
theorem hQ1 {α:Type}{l:List α} (h:l.length=2):∃ a0 a1,l=[a0,a1]:=by
 match l,h with
 | [a0,a1],_=>exact⟨a0,a1,rfl⟩
theorem mQ1 {α:Type}{l:List α} (h:l.length=3):∃ a0 a1 a2,l=[a0,a1,a2]:=by
 match l,h with
 | [a0,a1,a2],_=>exact⟨a0,a1,a2,rfl⟩
theorem rQ1 {α:Type}{l:List α} (h:l.length=4):∃ a0 a1 a2 a3,l=[a0,a1,a2,a3]:=by
 match l,h with
 | [a0,a1,a2,a3],_=>exact⟨a0,a1,a2,a3,rfl⟩
theorem OQ1 {α:Type}{l:List α} (h:l.length=5):∃ a0 a1 a2 a3 a4,l=[a0,a1,a2,a3,a4]:=by
 match l,h with
 | [a0,a1,a2,a3,a4],_=>exact⟨a0,a1,a2,a3,a4,rfl⟩
theorem wM (K:Nat) (n:Int) (q:List UInt8) (a:Option Addr) (cap:Nat) {ks:List Nat}{ts:List Tx} (hK:KL l raw E lv rv ev ks ts) (hcap:ks.length<=cap) (hA:YQ0 b a ks w) (H:St B b l raw E lv rv ev bs w) (hn:bs.length+(TQ0 K q ts).length<=1099511627776) (hql:q.length<=1048576) (hkl:ks.length<=100000000) (har:(gD K).1<=(ks.length:Int)/\((gD K).2=false->(ks.length:Int)=(gD K).1)) (hKK:K=0∨K=1∨K=2∨K=3∨K=4∨K=5∨K=6∨K=7∨K=8∨K=9∨K=10∨K=11∨K=12∨K=13∨K=14∨K=15∨K=16∨K=17∨K=18∨K=19∨K=20∨K=21∨K=22∨K=23∨K=24∨K=25) :
  Calls Tryz.prog 53 #[.pointer (some ⟨b,0,none⟩),.agg #[.int .u8 (K:Int),.int .i64 n,.string ⟨q.toArray⟩],.slice a ks.length cap] w fun e w'=>e=.returned (.tuple #[])/\Stp B b l raw E lv rv ev (bs++TQ0 K q ts) w w':=by
 have hlt:=hK.len;obtain⟨Z,hZ⟩:∃ Z,Z=TQ0 K q ts:=⟨_,rfl⟩;rw [<- hZ] at hn ⊢;have HZ:=hid hZ;have HN:=hid hn;have HK:=hid hK;have HH:=hid H;have HA:=hid hA;have HR:=hid har;replace hKK:=hid hKK;have hb:=(J' w.heap.size w).alloc (C' _) (Obj.cells #[.int .u8 (K:Int),.int .i64 n,.string ⟨q.toArray⟩] 46);have hx:Box b w.heap.size (K:Int) q (w.alloc (Obj.cells #[.int .u8 (K:Int),.int .i64 n,.string ⟨q.toArray⟩] 46)):=⟨Ez,n,heap_alloc_new w _⟩;have HB:=hid (And.intro hb hx);have HX1:Hid ((w.alloc (Obj.cells #[.int .u8 (K:Int),.int .i64 n,.string ⟨q.toArray⟩] 46)).heap[w.heap.size]?=some (Obj.cells #[.int .u8 (K:Int),.int .i64 n,.string ⟨q.toArray⟩] 46 (0,0))):=hid (heap_alloc_new w _);have HST:=hid (Stp.refl (H.later hb));clear hZ hn hK H hA har hb hx;go_enter Tryz.func53,Tryz.ntmps53;go_upto_region 1 with fail;generalize w.alloc (Obj.cells #[.int .u8 (K:Int),.int .i64 n,.string ⟨q.toArray⟩] 46)=w1 at *;have HKA:=hid (HA.out.kept (XQ0.of_below HB.out.1));have b0:=HB.out.2.c0;rcases hKK.out with rfl|rfl|rfl|rfl|rfl|rfl|rfl|rfl|rfl|rfl|rfl|rfl|rfl|rfl|rfl|rfl|rfl|rfl|rfl|rfl|rfl|rfl|rfl|rfl|rfl|rfl
 ·have hm:ks.length=0:=by have h3:(ks.length:Int)=0:=HR.out.2 Ch;omega
  obtain rfl:=Z' hm;obtain rfl:=Z' hlt.symm;clear hlt hm;obtain⟨HE,HL⟩:=pie (T:=bs) Cj HN.out;go_wp2_with fail;go_end0;exact fin HE HH HB HST
 ·have hm:ks.length=3:=by have h3:(ks.length:Int)=3:=HR.out.2 Ch;omega
  obtain⟨c0,c1,c2,rfl⟩:=mQ1 hm;obtain⟨x0,x1,x2,rfl⟩:=mQ1 (hlt.symm.trans hm);clear hm hlt;obtain⟨kb,ko,rfl⟩:=adr HKA (c:=c0) rfl;obtain⟨HE,HL⟩:=pie (T:=bs++xE [x0,x1,x2] [[112,97,99,107,97,103,101,32],[10],[],[]]) Cj HN.out;go_wp2_with fail;refine (gQ2 [[112,97,99,107,97,103,101,32],[10],[],[]] HK HKA HST (bl HL.out) hkl Cp rfl).mono ?_;rintro e wz ⟨rfl,HST⟩;go_wp2_with fail;go_end0;exact fin HE HH HB HST
 ·exact A5
 ·have hm:ks.length=1:=by have h3:(ks.length:Int)=1:=HR.out.2 Ch;omega
  obtain⟨c0,rfl⟩:=gQ1 hm;obtain⟨x0,rfl⟩:=gQ1 (hlt.symm.trans hm);clear hm hlt;obtain⟨kb,ko,rfl⟩:=adr HKA (c:=c0) rfl;obtain⟨HE,HL⟩:=pie (T:=bs++xE [x0] [(q++[32]),[]]) Cj HN.out;have qw:=qc HB HST;go_wp2_with fail;refine (gQ2 [(q++[32]),[]] HK HKA HST (bl HL.out) hkl Cp rfl).mono ?_;rintro e wz ⟨rfl,HST⟩;go_wp2_with fail;go_end0;exact fin HE HH HB HST
 ·cases ts with
  | nil =>
   obtain rfl:=Z' hlt;clear hlt;obtain⟨HE,HL⟩:=pie (T:=bs++[q,[32,40]].flatten++fQ1 []++[[41]].flatten) Gt HN.out;have qw:=qc HB HST;go_wp2_with fail;refine (fQ2 [q,[32,40]] HST (bl (bc (bc HL.out))) Cp rfl).mono ?_;rintro e wz ⟨rfl,HST⟩;go_wp2_with fail;refine (xQ2 HK HKA HST (bl (bc HL.out)) hkl).mono ?_;rintro e wz ⟨rfl,HST⟩;go_wp2_with fail;refine (fQ2 [[41]] HST (bl HL.out) Cp rfl).mono ?_;rintro e wz ⟨rfl,HST⟩;go_wp2_with fail;go_end0;exact fin HE HH HB HST
  | cons y r =>
   have hz1:0 < ks.length:=by rw [hlt];simp
   clear hlt;obtain⟨HE,HL⟩:=pie (T:=bs++[q,[32,40]].flatten++[[10]].flatten++fQ1 (y::r)++[[41]].flatten) Gt HN.out;have qw:=qc HB HST;go_wp2_with fail;refine (fQ2 [q,[32,40]] HST (bl (bc (bc (bc HL.out)))) Cp rfl).mono ?_;rintro e wz ⟨rfl,HST⟩;go_wp2_with fail;refine (fQ2 [[10]] HST (bl (bc (bc HL.out))) Cp rfl).mono ?_;rintro e wz ⟨rfl,HST⟩;go_wp2_with fail;refine (xQ2 HK HKA HST (bl (bc HL.out)) hkl).mono ?_;rintro e wz ⟨rfl,HST⟩;go_wp2_with fail;refine (fQ2 [[41]] HST (bl HL.out) Cp rfl).mono ?_;rintro e wz ⟨rfl,HST⟩;go_wp2_with fail;go_end0;exact fin HE HH HB HST
 ·have hm:ks.length=2:=by have h3:(ks.length:Int)=2:=HR.out.2 Ch;omega
  obtain⟨c0,c1,rfl⟩:=hQ1 hm;obtain⟨x0,x1,rfl⟩:=hQ1 (hlt.symm.trans hm);clear hm hlt;obtain⟨kb,ko,rfl⟩:=adr HKA (c:=c0) rfl;have P0:=iQ2 HK 0 (c:=c0) (x:=x0) rfl rfl;have P1:=iQ2 HK 1 (c:=c1) (x:=x1) rfl rfl;by_cases hq:q=[]
  ·have hq1:(q==[])=true:=by simpa using hq
   obtain⟨HE,HL⟩:=pie (T:=bs++WQ0 [] x0.2 [32]++x1.2) Dh HN.out;replace hq:=hid hq;have k0:=kc0 HKA HST (c:=c0) rfl;have qw:=qc HB HST;go_wp2_with fail;refine (nQ2 P0 [32] HST (bl (bc HL.out))).mono ?_;rintro e wz ⟨rfl,HST⟩;have k1:=kc HKA HST (c:=c1) 1 rfl;have qw:=qc HB HST;go_wp2_with fail;refine (hQ2 P1 HST (bl HL.out)).mono ?_;rintro e wz ⟨rfl,HST⟩;go_wp2_with fail;go_end0;exact fin HE HH HB HST
  ·have hq1:(q==[])=false:=by simpa using hq
   obtain⟨HE,HL⟩:=pie (T:=bs++[q,[32]].flatten++WQ0 [] x0.2 [32]++x1.2) Dh HN.out;replace hq:=hid hq;have qw:=qc HB HST;go_wp2_with fail;refine (fQ2 [q,[32]] HST (bl (bc (bc HL.out))) Cp rfl).mono ?_;rintro e wz ⟨rfl,HST⟩;have k0:=kc0 HKA HST (c:=c0) rfl;have qw:=qc HB HST;go_wp2_with fail;refine (nQ2 P0 [32] HST (bl (bc HL.out))).mono ?_;rintro e wz ⟨rfl,HST⟩;have k1:=kc HKA HST (c:=c1) 1 rfl;have qw:=qc HB HST;go_wp2_with fail;refine (hQ2 P1 HST (bl HL.out)).mono ?_;rintro e wz ⟨rfl,HST⟩;go_wp2_with fail;go_end0;exact fin HE HH HB HST
 ·have hm:ks.length=3:=by have h3:(ks.length:Int)=3:=HR.out.2 Ch;omega
  obtain⟨c0,c1,c2,rfl⟩:=mQ1 hm;obtain⟨x0,x1,x2,rfl⟩:=mQ1 (hlt.symm.trans hm);clear hm hlt;obtain⟨kb,ko,rfl⟩:=adr HKA (c:=c0) rfl;have P0:=iQ2 HK 0 (c:=c0) (x:=x0) rfl rfl;have P1:=iQ2 HK 1 (c:=c1) (x:=x1) rfl rfl;have P2:=iQ2 HK 2 (c:=c2) (x:=x2) rfl rfl;obtain⟨HE,HL⟩:=pie (T:=bs++x0.2++WQ0 [32] x1.2 []++WQ0 [32,61,32] x2.2 []) Cj HN.out;have k0:=kc0 HKA HST (c:=c0) rfl;go_wp2_with fail;refine (hQ2 P0 HST (bl (bc (bc HL.out)))).mono ?_;rintro e wz ⟨rfl,HST⟩;have k1:=kc HKA HST (c:=c1) 1 rfl;go_wp2_with fail;refine (lQ2 P1 [32] HST (bl (bc HL.out))).mono ?_;rintro e wz ⟨rfl,HST⟩;have k2:=kc HKA HST (c:=c2) 2 rfl;go_wp2_with fail;refine (lQ2 P2 [32,61,32] HST (bl HL.out)).mono ?_;rintro e wz ⟨rfl,HST⟩;go_wp2_with fail;go_end0;exact fin HE HH HB HST
 ·have hm:ks.length=3:=by have h3:(ks.length:Int)=3:=HR.out.2 Ch;omega
  obtain⟨c0,c1,c2,rfl⟩:=mQ1 hm;obtain⟨x0,x1,x2,rfl⟩:=mQ1 (hlt.symm.trans hm);clear hm hlt;obtain⟨kb,ko,rfl⟩:=adr HKA (c:=c0) rfl;have P2:=iQ2 HK 2 (c:=c2) (x:=x2) rfl rfl;replace hcap:3<=cap:=hcap;by_cases hq:q=[]
  ·have hq1:(q==[])=true:=by simpa using hq
   obtain⟨HE,HL⟩:=pie (T:=bs++cQ1 [] [x0,x1]++[[32]].flatten++x2.2) Dh HN.out;replace hq:=hid hq;have qw:=qc HB HST;go_wp2_with fail;refine (qQ2 [] (ks:=[c0,c1]) (ts:=[x0,x1]) (a:=some ⟨kb,ko,none⟩) (yQ2 HK 0 2) (zQ2 HKA 0 2) HST (bl (bc (bc HL.out))) Cm).mono ?_;rintro e wz ⟨rfl,HST⟩;have qw:=qc HB HST;go_wp2_with fail;refine (fQ2 [[32]] HST (bl (bc HL.out)) Cp rfl).mono ?_;rintro e wz ⟨rfl,HST⟩;have k2:=kc HKA HST (c:=c2) 2 rfl;have qw:=qc HB HST;go_wp2_with fail;refine (hQ2 P2 HST (bl HL.out)).mono ?_;rintro e wz ⟨rfl,HST⟩;go_wp2_with fail;go_end0;exact fin HE HH HB HST
  ·have hq1:(q==[])=false:=by simpa using hq
   obtain⟨HE,HL⟩:=pie (T:=bs++cQ1 [] [x0,x1]++[[32]].flatten++[q,[32]].flatten++x2.2) Dh HN.out;replace hq:=hid hq;have qw:=qc HB HST;go_wp2_with fail;refine (qQ2 [] (ks:=[c0,c1]) (ts:=[x0,x1]) (a:=some ⟨kb,ko,none⟩) (yQ2 HK 0 2) (zQ2 HKA 0 2) HST (bl (bc (bc (bc HL.out)))) Cm).mono ?_;rintro e wz ⟨rfl,HST⟩;have qw:=qc HB HST;go_wp2_with fail;refine (fQ2 [[32]] HST (bl (bc (bc HL.out))) Cp rfl).mono ?_;rintro e wz ⟨rfl,HST⟩;have qw:=qc HB HST;go_wp2_with fail;refine (fQ2 [q,[32]] HST (bl (bc HL.out)) Cp rfl).mono ?_;rintro e wz ⟨rfl,HST⟩;have k2:=kc HKA HST (c:=c2) 2 rfl;have qw:=qc HB HST;go_wp2_with fail;refine (hQ2 P2 HST (bl HL.out)).mono ?_;rintro e wz ⟨rfl,HST⟩;go_wp2_with fail;go_end0;exact fin HE HH HB HST
 ·have hm:ks.length=5:=by have h3:(ks.length:Int)=5:=HR.out.2 Ch;omega
  obtain⟨c0,c1,c2,c3,c4,rfl⟩:=OQ1 hm;obtain⟨x0,x1,x2,x3,x4,rfl⟩:=OQ1 (hlt.symm.trans hm);clear hm hlt;obtain⟨kb,ko,rfl⟩:=adr HKA (c:=c0) rfl;have P0:=iQ2 HK 0 (c:=c0) (x:=x0) rfl rfl;have P4:=iQ2 HK 4 (c:=c4) (x:=x4) rfl rfl;replace hcap:5<=cap:=hcap;have hcn1:cap≠1:=Cf
  have hcd1:decide (cap=1)=false:=Cn
  obtain⟨HE,HL⟩:=pie (T:=bs++[[102,117,110,99,32]].flatten++WQ0 [] x0.2 [32]++cQ1 [] [x1,x2,x3]++WQ0 [32] x4.2 []) Cj HN.out;go_wp2_with fail;refine (fQ2 [[102,117,110,99,32]] HST (bl (bc (bc (bc HL.out)))) Cp rfl).mono ?_;rintro e wz ⟨rfl,HST⟩;have k0:=kc0 HKA HST (c:=c0) rfl;go_wp2_with fail;refine (nQ2 P0 [32] HST (bl (bc (bc HL.out)))).mono ?_;rintro e wz ⟨rfl,HST⟩;go_wp2_with fail;refine (qQ2 [] (ks:=[c1,c2,c3]) (ts:=[x1,x2,x3]) (a:=some ⟨kb,ko+1,none⟩) (yQ2 HK 1 3) (zQ2 HKA 1 3) HST (bl (bc HL.out)) Cm).mono ?_;rintro e wz ⟨rfl,HST⟩;have k4:=kc HKA HST (c:=c4) 4 rfl;go_wp2_with fail;refine (lQ2 P4 [32] HST (bl HL.out)).mono ?_;rintro e wz ⟨rfl,HST⟩;go_wp2_with fail;go_end0;exact fin HE HH HB HST
 ·have hm:ks.length=2:=by have h3:(ks.length:Int)=2:=HR.out.2 Ch;omega
  obtain⟨c0,c1,rfl⟩:=hQ1 hm;obtain⟨x0,x1,rfl⟩:=hQ1 (hlt.symm.trans hm);clear hm hlt;obtain⟨kb,ko,rfl⟩:=adr HKA (c:=c0) rfl;have P0:=iQ2 HK 0 (c:=c0) (x:=x0) rfl rfl;have P1:=iQ2 HK 1 (c:=c1) (x:=x1) rfl rfl;obtain⟨HE,HL⟩:=pie (T:=bs++x0.2++WQ0 [32] x1.2 []) Cj HN.out;have k0:=kc0 HKA HST (c:=c0) rfl;go_wp2_with fail;refine (hQ2 P0 HST (bl (bc HL.out))).mono ?_;rintro e wz ⟨rfl,HST⟩;have k1:=kc HKA HST (c:=c1) 1 rfl;go_wp2_with fail;refine (lQ2 P1 [32] HST (bl HL.out)).mono ?_;rintro e wz ⟨rfl,HST⟩;go_wp2_with fail;go_end0;exact fin HE HH HB HST
 ·exact Az
 ·exact Az
 ·exact Az
 ·exact A5
 ·clear hlt;obtain⟨HE,HL⟩:=pie (T:=bs++[[40]].flatten++cQ1 [44,32] ts++[[41]].flatten) Cj HN.out;go_wp2_with fail;refine (fQ2 [[40]] HST (bl (bc (bc HL.out))) Cp rfl).mono ?_;rintro e wz ⟨rfl,HST⟩;go_wp2_with fail;refine (qQ2 [44,32] HK HKA HST (bl (bc HL.out)) hkl).mono ?_;rintro e wz ⟨rfl,HST⟩;go_wp2_with fail;refine (fQ2 [[41]] HST (bl HL.out) Cp rfl).mono ?_;rintro e wz ⟨rfl,HST⟩;go_wp2_with fail;go_end0;exact fin HE HH HB HST
 ·have hm:ks.length=2:=by have h3:(ks.length:Int)=2:=HR.out.2 Ch;omega
  obtain⟨c0,c1,rfl⟩:=hQ1 hm;obtain⟨x0,x1,rfl⟩:=hQ1 (hlt.symm.trans hm);clear hm hlt;obtain⟨kb,ko,rfl⟩:=adr HKA (c:=c0) rfl;have P0:=iQ2 HK 0 (c:=c0) (x:=x0) rfl rfl;have P1:=iQ2 HK 1 (c:=c1) (x:=x1) rfl rfl;obtain⟨HE,HL⟩:=pie (T:=bs++WQ0 [] x0.2 [32]++[q].flatten++x1.2) Cj HN.out;have k0:=kc0 HKA HST (c:=c0) rfl;go_wp2_with fail;refine (nQ2 P0 [32] HST (bl (bc (bc HL.out)))).mono ?_;rintro e wz ⟨rfl,HST⟩;have qw:=qc HB HST;go_wp2_with fail;refine (fQ2 [q] HST (bl (bc HL.out)) Cp rfl).mono ?_;rintro e wz ⟨rfl,HST⟩;have k1:=kc HKA HST (c:=c1) 1 rfl;go_wp2_with fail;refine (hQ2 P1 HST (bl HL.out)).mono ?_;rintro e wz ⟨rfl,HST⟩;go_wp2_with fail;go_end0;exact fin HE HH HB HST
 ·clear hlt;obtain⟨HE,HL⟩:=pie (T:=bs++[[91]].flatten++cQ1 [44,32] ts++[[93]].flatten) Cj HN.out;go_wp2_with fail;refine (fQ2 [[91]] HST (bl (bc (bc HL.out))) Cp rfl).mono ?_;rintro e wz ⟨rfl,HST⟩;go_wp2_with fail;refine (qQ2 [44,32] HK HKA HST (bl (bc HL.out)) hkl).mono ?_;rintro e wz ⟨rfl,HST⟩;go_wp2_with fail;refine (fQ2 [[93]] HST (bl HL.out) Cp rfl).mono ?_;rintro e wz ⟨rfl,HST⟩;go_wp2_with fail;go_end0;exact fin HE HH HB HST
 ·have hm:ks.length=2:=by have h3:(ks.length:Int)=2:=HR.out.2 Ch;omega
  obtain⟨c0,c1,rfl⟩:=hQ1 hm;obtain⟨x0,x1,rfl⟩:=hQ1 (hlt.symm.trans hm);clear hm hlt;obtain⟨kb,ko,rfl⟩:=adr HKA (c:=c0) rfl;have P0:=iQ2 HK 0 (c:=c0) (x:=x0) rfl rfl;have P1:=iQ2 HK 1 (c:=c1) (x:=x1) rfl rfl;obtain⟨HE,HL⟩:=pie (T:=bs++x0.2++WQ0 [32] x1.2 []) Cj HN.out;have k0:=kc0 HKA HST (c:=c0) rfl;go_wp2_with fail;refine (hQ2 P0 HST (bl (bc HL.out))).mono ?_;rintro e wz ⟨rfl,HST⟩;have k1:=kc HKA HST (c:=c1) 1 rfl;go_wp2_with fail;refine (lQ2 P1 [32] HST (bl HL.out)).mono ?_;rintro e wz ⟨rfl,HST⟩;go_wp2_with fail;go_end0;exact fin HE HH HB HST
 ·clear hlt;obtain⟨HE,HL⟩:=pie (T:=bs++cQ1 [32,124,32] ts) Cj HN.out;go_wp2_with fail;refine (qQ2 [32,124,32] HK HKA HST (bl HL.out) hkl).mono ?_;rintro e wz ⟨rfl,HST⟩;go_wp2_with fail;go_end0;exact fin HE HH HB HST
 ·have hm:ks.length=1:=by have h3:(ks.length:Int)=1:=HR.out.2 Ch;omega
  obtain⟨c0,rfl⟩:=gQ1 hm;obtain⟨x0,rfl⟩:=gQ1 (hlt.symm.trans hm);clear hm hlt;obtain⟨kb,ko,rfl⟩:=adr HKA (c:=c0) rfl;obtain⟨HE,HL⟩:=pie (T:=bs++xE [x0] [[126],[]]) Cj HN.out;go_wp2_with fail;refine (gQ2 [[126],[]] HK HKA HST (bl HL.out) hkl Cp rfl).mono ?_;rintro e wz ⟨rfl,HST⟩;go_wp2_with fail;go_end0;exact fin HE HH HB HST
 ·exact A4
 ·have hm:ks.length=3:=by have h3:(ks.length:Int)=3:=HR.out.2 Ch;omega
  obtain⟨c0,c1,c2,rfl⟩:=mQ1 hm;obtain⟨x0,x1,x2,rfl⟩:=mQ1 (hlt.symm.trans hm);clear hm hlt;obtain⟨kb,ko,rfl⟩:=adr HKA (c:=c0) rfl;have P0:=iQ2 HK 0 (c:=c0) (x:=x0) rfl rfl;have P1:=iQ2 HK 1 (c:=c1) (x:=x1) rfl rfl;have P2:=iQ2 HK 2 (c:=c2) (x:=x2) rfl rfl;obtain⟨HE,HL⟩:=pie (T:=bs++x0.2++WQ0 [32] x1.2 []++WQ0 [32] x2.2 []) Cj HN.out;have k0:=kc0 HKA HST (c:=c0) rfl;go_wp2_with fail;refine (hQ2 P0 HST (bl (bc (bc HL.out)))).mono ?_;rintro e wz ⟨rfl,HST⟩;have k1:=kc HKA HST (c:=c1) 1 rfl;go_wp2_with fail;refine (lQ2 P1 [32] HST (bl (bc HL.out))).mono ?_;rintro e wz ⟨rfl,HST⟩;have k2:=kc HKA HST (c:=c2) 2 rfl;go_wp2_with fail;refine (lQ2 P2 [32] HST (bl HL.out)).mono ?_;rintro e wz ⟨rfl,HST⟩;go_wp2_with fail;go_end0;exact fin HE HH HB HST
 ·have hm:ks.length=2:=by have h3:(ks.length:Int)=2:=HR.out.2 Ch;omega
  obtain⟨c0,c1,rfl⟩:=hQ1 hm;obtain⟨x0,x1,rfl⟩:=hQ1 (hlt.symm.trans hm);clear hm hlt;obtain⟨kb,ko,rfl⟩:=adr HKA (c:=c0) rfl;have P0:=iQ2 HK 0 (c:=c0) (x:=x0) rfl rfl;have P1:=iQ2 HK 1 (c:=c1) (x:=x1) rfl rfl;obtain⟨HE,HL⟩:=pie (T:=bs++x0.2++WQ0 [32] x1.2 []) Cj HN.out;have k0:=kc0 HKA HST (c:=c0) rfl;go_wp2_with fail;refine (hQ2 P0 HST (bl (bc HL.out))).mono ?_;rintro e wz ⟨rfl,HST⟩;have k1:=kc HKA HST (c:=c1) 1 rfl;go_wp2_with fail;refine (lQ2 P1 [32] HST (bl HL.out)).mono ?_;rintro e wz ⟨rfl,HST⟩;go_wp2_with fail;go_end0;exact fin HE HH HB HST
 ·exact A4
 ·have hm:ks.length=2:=by have h3:(ks.length:Int)=2:=HR.out.2 Ch;omega
  obtain⟨c0,c1,rfl⟩:=hQ1 hm;obtain⟨x0,x1,rfl⟩:=hQ1 (hlt.symm.trans hm);clear hm hlt;obtain⟨kb,ko,rfl⟩:=adr HKA (c:=c0) rfl;obtain⟨HE,HL⟩:=pie (T:=bs++cQ1 [] [x0,x1]) Cj HN.out;go_wp2_with fail;refine (qQ2 [] HK HKA HST (bl HL.out) hkl).mono ?_;rintro e wz ⟨rfl,HST⟩;go_wp2_with fail;go_end0;exact fin HE HH HB HST
 ·clear hlt;obtain⟨HE,HL⟩:=pie (T:=bs++cQ1 [] ts) Cj HN.out;go_wp2_with fail;refine (qQ2 [] HK HKA HST (bl HL.out) hkl).mono ?_;rintro e wz ⟨rfl,HST⟩;go_wp2_with fail;go_end0;exact fin HE HH HB HST
end Rnd
