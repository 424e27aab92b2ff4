import Derived.Test.YtfmpphplbdojbaaGreatDoorQBM
import Derived.Handy
import Derived.Test.YtfmpphplbdojbaaGreatDoorQBN
namespace Go.Proofs.YtfmpphplbdojbaaGreatDoor
open Lib(hid)
set_option linter.all false
set_option maxHeartbeats 40000000
set_option maxRecDepth 100000
namespace Rnd
open Grd (Pt Fo)
def S (ts:List Tx):Nat:=(ts.map fun x=>x.2.length).sum
theorem xQ3 (a b:List Tx):S (a++b)=S a+S b:=by simp [S]
theorem wQ2 (ts:List Tx) (i:Nat):(tx ts i).length+S (ts.drop (i+1))=S (ts.drop i):=by
 by_cases h:i < ts.length
 ·rw [An h,S,S,List.map_cons,List.sum_cons,tx,M' h];rfl
 ·rw [List.drop_of_length_le Cf,List.drop_of_length_le Cf,tx,Ap Cf];rfl
theorem sQ2 (ts:List Tx) (n:Nat):S (ts.take n)+S (ts.drop n)=S ts:=by rw [<- xQ3,List.take_append_drop]
theorem lQ3 (a t b:List UInt8):(WQ0 a t b).length<=a.length+t.length+b.length:=by unfold WQ0;split <;> simp <;> omega
theorem eQ3 (a t b:List UInt8):(VQ0 t a b).length<=a.length+t.length+b.length:=by unfold VQ0;split <;> simp <;> omega
theorem uQ3 (ts:List Tx) (i:Nat):(bQ1 ts i).length<=(tx ts i).length+1:=by unfold bQ1;split <;> simp
theorem yQ3 (ts:List Tx):(nlT ts).length<=1:=by cases ts <;> simp [nlT]
theorem tQ3 (m:List UInt8) (ts:List Tx):(BQ1 m ts).length=m.length*ts.length+S ts:=by
 induction ts with
 | nil=>rfl
 | cons x r ih=>simp only [BQ1,List.flatMap_cons,O',S,List.map_cons,List.sum_cons,Ab,Nat.mul_add] at ih ⊢;omega
theorem qQ3 (m:List UInt8) (ts:List Tx):(cQ1 m ts).length<=m.length*ts.length+S ts:=by
 cases ts with
 | nil=>simp [cQ1]
 | cons x r=>simp only [cQ1,O',tQ3,S,List.map_cons,List.sum_cons,Ab,Nat.mul_add];omega
theorem ZQ2 (ts:List Tx):(fQ1 ts).length=ts.length+S ts:=by
 induction ts with
 | nil=>rfl
 | cons x r ih=>simp only [fQ1,List.flatMap_cons,O',S,List.map_cons,List.sum_cons,Ab,Aj] at ih ⊢;omega
theorem sQ3 (ts:List Tx) (ss:List (List UInt8)):∀ n,n<=ss.length->((List.range n).flatMap (jQ1 ts ss)).length<=(ss.take n).flatten.length+S (ts.take n):=by
 intro n
 induction n with
 | zero=>intro _;simp
 | succ n ih =>
  intro h;have:=ih Cf;rw [List.range_succ,List.flatMap_append,O',List.take_add_one,List.take_add_one,xQ3,List.flatten_append,O'];have e1:ss[n]?=some ss[n]:=M' Cf;have h1:(List.flatMap (jQ1 ts ss) [n]).length<=(ss[n]?.toList).flatten.length+S (ts[n]?.toList):=by
   rw [e1];simp only [List.flatMap_cons,List.flatMap_nil,List.append_nil,jQ1,List.getD_eq_getElem?_getD,e1,Option.getD_some,O',Option.toList_some,At,List.flatten_nil];split
   ·rename_i hh;simp only [tx,M' hh.1,Option.map_some,Option.getD_some,Option.toList_some,S,List.map_cons,List.sum_cons,List.map_nil,List.sum_nil];omega
   ·exact Cm
  omega
theorem vQ3 (ts:List Tx) (ss:List (List UInt8)):(xE ts ss).length<=ss.flatten.length+S ts:=by
 have h:=sQ2 ts ss.length;have:=sQ3 ts ss ss.length (C' _);rw [List.take_length] at this
 show ((List.range ss.length).flatMap (jQ1 ts ss)).length<=_
 omega
theorem AQ3 {a b:List UInt8}{m n:Nat} (h:a.length<=m) (k:b.length<=n):(a++b).length<=m+n:=by rw [O'];omega
theorem qU (k:Nat) (q:List UInt8) (ts:List Tx):(TQ0 k q ts).length<=q.length+40+S ts+3*ts.length:=by
 have t0:=wQ2 ts 0;have t1:=wQ2 ts 1;have t2:=wQ2 ts 2;have t3:=wQ2 ts 3;have t4:=wQ2 ts 4;have k1:=sQ2 ts 1;have k2:=sQ2 ts 2;have k3:=sQ2 ts 3;have k4:=sQ2 ts 4;have d4:=sQ2 (ts.take 4) 1;have d3:=sQ2 (ts.take 3) 1;rw [List.take_take,show min 1 4=1 from rfl] at d4;rw [List.take_take,show min 1 3=1 from rfl] at d3;rw [List.drop_zero] at t0;simp only [Nat.zero_add,Nat.reduceAdd] at t0 t1 t2 t3 t4;unfold TQ0;split
 all_goals try split
 all_goals
  refine Ak (by
   repeat' with_reducible (first|exact lQ3 _ _ _|exact eQ3 _ _ _|exact uQ3 _ _|exact qQ3 _ _|exact Nat.le_of_eq (ZQ2 _)|exact vQ3 _ _|exact yQ3 _|apply AQ3|exact C' _)) ?_
  try simp only [Ab,Aj,O',At,List.flatten_nil,List.length_take,V',Nat.zero_add,Nat.reduceAdd]
  try omega
def tQ2 (raw:Nat->List UInt8):Nat->Nat->Nat
 | _,0=>0
 | o,n+1=>(raw o).length+tQ2 raw (o+1) n
theorem PQ2 (raw:Nat->List UInt8):∀ (m o n:Nat),tQ2 raw o (m+n)=tQ2 raw o m+tQ2 raw (o+m) n
 | 0,o,n=>by simp [tQ2]
 | m+1,o,n=>by
  rw [show m+1+n=(m+n)+1 by omega,tQ2,tQ2,PQ2 raw m (o+1) n,show o+1+m=o+(m+1) by omega];omega
def EQ2 (l:List Pt):Nat:=(l.map fun p=>p.w.length+43).sum
theorem WQ2:∀ (l:List Pt) (M:Nat),(∀ p∈l,p.w.length<=M)->EQ2 l<=l.length*(M+43)
 | [],_,_=>by simp [EQ2]
 | p::r,M,h=>by
  have h1:=WQ2 r M (fun q hq=>h q (by simp [hq]));have h2:=h p Cm;simp only [EQ2,List.map_cons,List.sum_cons,Ab,Nat.add_mul,Nat.one_mul] at h1 ⊢;omega
theorem TQ2 (raw:Nat->List UInt8):∀ (f:Fo) (o:Nat),S (txF raw f o)+3*f.count<=EQ2 f.flat+tQ2 raw o f.size
 | .nil,_=>by simp [txF,S,Fo.count]
 | .cons p k r,o=>by
  have h1:=TQ2 raw k (o+1);have h2:=TQ2 raw r (o+1+k.size);have h3:=qU p.k.toNat p.w (txF raw k (o+1));have h4:=KQ1 raw k (o+1);have h5:tQ2 raw o (1+k.size+r.size)=(raw o).length+tQ2 raw (o+1) k.size+tQ2 raw (o+1+k.size) r.size:=by
   rw [PQ2,show 1+k.size=k.size+1 by omega,tQ2,show o+(k.size+1)=o+1+k.size by omega]
  have h6:EQ2 (p::(k.flat++r.flat))=p.w.length+43+EQ2 k.flat+EQ2 r.flat:=by
   simp only [EQ2,List.map_cons,List.sum_cons,List.map_append,List.sum_append];omega
  simp only [txF,Fo.count,Fo.flat,Fo.size,h5,h6];have h7:∀ a,S ((p.k,a)::txF raw r (o+1+k.size))=a.length+S (txF raw r (o+1+k.size)):=fun a=>by simp [S]
  rw [h7];split <;> omega
theorem pQ3 (l:List Pt) (raw:Nat->List UInt8) (h:fF l=true):(pQ2 l raw).length<=EQ2 l+tQ2 raw 0 l.length:=by
 have hc':Grd.DG (l.map Pt.n)=true:=by simp [fF] at h;exact h.1
 obtain⟨h1,h2,h3⟩:=LQ2 hc';have h4:=TQ2 raw (foL l) 0;have h5:=wQ2 (txF raw (foL l) 0) 0;rw [h1,<- Grd.Fo.flat_len,h1] at h4;unfold pQ2;rw [List.drop_zero] at h5;omega
theorem MQ2:∀ (n o:Nat),tQ2 (fun _=>[]) o n=0
 | 0,_=>rfl
 | n+1,o=>by rw [tQ2,MQ2 n];rfl
end Rnd
namespace Rnd
open Go.RowKit
open Grd (Pt Fo tB)
variable {w w':World}
def mQ2 (s:List UInt8) (l:List Tk) (t:Tr):List Pt:=(parts ⟨s,l,[]⟩ t).map ptG
def jQ2 (l:List Pt):List UInt8:=pQ2 l fun _=>[]
theorem BQ2 (a:Option Addr) (cap:Nat) (l:List Pt) (hp:tB w a l) (hl:l.length<=100000) (hw:∀ p∈l,p.w.length<=1048576) (hT:NC w) :
  Calls Tryz.prog 10 #[.slice a l.length cap] w fun e w'=>(∃ (s:List UInt8) (er:Int),e=.returned (.tuple #[.string ⟨s.toArray⟩,.int .i64 er])/\(if fF l=true/\(jQ2 l).length<=65536 then s=jQ2 l/\er=0 else s=[]/\(er==0)=false))/\Below w.heap.size w w':=by
 refine (nQ3 a cap l hp Cf hw hT (fun hc=>?_)).mono fun e w' ⟨he,hb⟩=>⟨?_,hb⟩
 ·have h1:=pQ3 l (fun _=>[]) hc;have h2:=WQ2 l 1048576 hw;rw [MQ2] at h1;have h3:l.length*(1048576+43)<=100000*(1048576+43):=Nat.mul_le_mul_right _ hl;omega
 ·subst he;unfold DQ2;by_cases hc:fF l=true
  ·rw [if_pos hc];unfold AQ2;by_cases hs:65536 < (pQ2 l fun _=>[]).length
   ·rw [if_pos hs,if_pos hs];exact⟨[],2,rfl,by rw [if_neg (fun h=>by have:=h.2;unfold jQ2 at this;omega)];exact⟨rfl,Ch⟩⟩
   ·rw [if_neg hs,if_neg hs];exact⟨_,0,rfl,by rw [if_pos ⟨hc,by unfold jQ2;omega⟩];exact⟨rfl,rfl⟩⟩
  ·rw [if_neg hc];exact⟨[],8,rfl,by rw [if_neg (fun h=>hc h.1)];exact⟨rfl,Ch⟩⟩
end Rnd
namespace Rnd
open Go.RowKit
open Grd (Pt Fo tB)
variable {w w':World}
def iQ3 (goal:UInt8) (s:List UInt8):Option (List UInt8):=match tD kE goal s with
 | .ok l t=>if fF (mQ2 s l t)&&(decide ((mQ2 s l t).length<=3000)&&((mQ2 s l t).all fun p=>decide (p.w.length<=1048576))) then some (jQ2 (mQ2 s l t)) else none
 | .bad _ _=>none
theorem fx1:iQ3 3 [105,102,32,120,58,61,102,40,41,59,120,123,97,125]=some [105,102,32,120,32,58,61,32,102,40,41,59,32,120,32,123,10,97,10,125,10]:=Ci
theorem fx2:iQ3 2 [45,32,45,120]=some [45,32,45,120]:=Ci
theorem bQ3 {goal:UInt8}{s x:List UInt8} (h:iQ3 goal s=some x) (hx:x.length<=65536):∃ l t,tD kE goal s=.ok l t/\(fF (mQ2 s l t)=true/\(jQ2 (mQ2 s l t)).length<=65536)/\jQ2 (mQ2 s l t)=x/\(mQ2 s l t).length<=100000/\∀ p∈mQ2 s l t,p.w.length<=1048576:=by
 unfold iQ3 at h;split at h
 ·rename_i l t hr;split at h
  ·rename_i hc;simp only [Bool.and_eq_true,decide_eq_true_eq,List.all_eq_true] at hc;have he:=Option.some.inj h;exact⟨l,t,hr,⟨hc.1,by rw [he];exact hx⟩,he,Cf,hc.2.2⟩
  ·exact C4
 ·exact C4
theorem VQ2 {goal:UInt8}{s:List UInt8}{l:List Tk}{t:Tr} (hr:tD kE goal s=.ok l t) (w:World) (hT:NC w):Calls Tryz.prog 17 #[.int .u8 (goal.toNat:Int),.string ⟨s.toArray⟩] w fun e w'=>∃ a c,e=.returned (.tuple #[.slice a (mQ2 s l t).length c,.agg #[.int .i64 0,.int .i64 0]])/\tB w' a (mQ2 s l t)/\Below w.heap.size w w':=by
 have h1:=nV goal s w hT;rw [hr] at h1;refine h1.mono ?_;rintro e w2 ⟨pa,pn,pc,rfl,hq,hb⟩;have q1:w2.ownsRow w.heap.size 46 3 (.slice pa pn pc) (parts ⟨s,l,[]⟩ t).length (CF (parts ⟨s,l,[]⟩ t)):=hq;have e1:pn=(parts ⟨s,l,[]⟩ t).length:=by
  obtain⟨_,_,e⟩:=Grd.ID q1;cases e;rfl
 subst e1;have e2:(parts ⟨s,l,[]⟩ t).length=(mQ2 s l t).length:=by unfold mQ2;rw [List.length_map]
 refine⟨pa,pc,by rw [e2];rfl,qP q1 rfl,hb⟩
theorem yS (a:Option Addr) (cap:Nat) (l:List Pt) (hp:tB w a l) (hl:l.length<=100000) (hw:∀ p∈l,p.w.length<=1048576) (hT:NC w) (hc:fF l=true/\(jQ2 l).length<=65536) :
  Calls Tryz.prog 10 #[.slice a l.length cap] w fun e w'=>e=.returned (.tuple #[.string ⟨(jQ2 l).toArray⟩,.int .i64 0])/\Below w.heap.size w w' :=
 (BQ2 a cap l hp hl hw hT).mono fun e w' ⟨⟨s,er,he,hs⟩,hb⟩=>by
  rw [if_pos hc] at hs;obtain⟨rfl,rfl⟩:=hs;exact⟨he,hb⟩
def TOk (w:World) (e:Ending) (w':World) (L:List Pt):Prop:=∃ a c,e=.returned (.tuple #[.slice a L.length c,.agg #[.int .i64 0,.int .i64 0]])/\tB w' a L/\Below w.heap.size w w'
theorem gQ3 {goal:UInt8}{s x:List UInt8} (h:iQ3 goal s=some x) (hx:x.length<=65536):∃ L:List Pt,(∀ w,NC w->Calls Tryz.prog 17 #[.int .u8 (goal.toNat:Int),.string ⟨s.toArray⟩] w (fun e w'=>TOk w e w' L)) /\
  ∀ w a c,NC w->tB w a L->Calls Tryz.prog 10 #[.slice a L.length c] w fun e w'=>e=.returned (.tuple #[.string ⟨x.toArray⟩,.int .i64 0])/\Below w.heap.size w w':=by
 obtain⟨l,t,hr,hc,ht,hl,hw⟩:=bQ3 h hx;exact⟨mQ2 s l t,fun w hT=>VQ2 hr w hT,fun w a c hT hp=>by rw [<- ht];exact yS a c _ hp hl hw hT hc⟩
theorem FQ2 (hT:NC w):Calls Tryz.prog 9 #[] w (fun e w'=>e=.returned (.bool true)/\Below w.heap.size w w'):=by
 obtain⟨L1,H1,G1⟩:=gQ3 fx1 Ch;obtain⟨L2,H2,G2⟩:=gQ3 fx2 Ch;have HT:=hid hT;have HH1:=hid H1;have HG1:=hid G1;have HH2:=hid H2;have HG2:=hid G2;clear hT H1 H2 G1 G2;go_enter Tryz.func9,Tryz.ntmps9;go_wp2_with fail;refine (HH1.out w HT.out).mono ?_;rintro e w2 ⟨a1,c1,rfl,hp1,hb1⟩;go_upto_region 2 with fail;have h2:=heap_alloc_new w2 (Obj.cells #[.int .i64 0,.int .i64 0] 35);have b2:=(J' w2.heap.size w2).alloc (C' _) (Obj.cells #[.int .i64 0,.int .i64 0] 35);have s2:w2.heap.size < (w2.alloc (Obj.cells #[.int .i64 0,.int .i64 0] 35)).heap.size:=Cm
 have HB2:=hid (dA hb1 b2);have HP2:=hid (hp1.later b2);clear b2 hp1 hb1;generalize w2.alloc (Obj.cells #[.int .i64 0,.int .i64 0] 35)=wA at *;go_wp2_with fail;refine (HG1.out _ _ _ (HT.out.below HB2.out) HP2.out).mono ?_;rintro e w3 ⟨rfl,hb3⟩;have h2:=(hb3.block _ s2).trans h2;have l2:=Af s2 hb3.size;have HB3:=hid (dA HB2.out hb3);clear hb3 s2 HB2;go_wp2_with fail;refine (HH2.out _ (HT.out.below HB3.out)).mono ?_;rintro e w4 ⟨a2,c2,rfl,hp2,hb4⟩;have h2:=(hb4.block _ l2).trans h2;have l3:=Af l2 hb4.size;have HB4:=hid (dA HB3.out hb4);clear hb4 HB3;go_upto_region 4 with fail;have h4:=heap_alloc_new w4 (Obj.cells #[.int .i64 0,.int .i64 0] 35);have b4:=(J' w4.heap.size w4).alloc (C' _) (Obj.cells #[.int .i64 0,.int .i64 0] 35);have s4:w4.heap.size < (w4.alloc (Obj.cells #[.int .i64 0,.int .i64 0] 35)).heap.size:=Cm
 have h2:=(b4.block _ l3).trans h2;have HB5:=hid (dA HB4.out b4);have HP5:=hid (hp2.later b4);clear b4 hp2 HB4;generalize w4.alloc (Obj.cells #[.int .i64 0,.int .i64 0] 35)=wB at *;go_wp2_with fail;refine (HG2.out _ _ _ (HT.out.below HB5.out) HP5.out).mono ?_;rintro e w5 ⟨rfl,hb6⟩;have h2:=(hb6.block _ (Nat.lt_trans l3 s4)).trans h2;have h4:=(hb6.block _ s4).trans h4;have HB6:=hid (dA HB5.out hb6);clear hb6 HB5;obtain⟨g1,g2,_,_⟩:=YB h2;obtain⟨g3,g4,_,_⟩:=YB h4;clear h2 h4;go_wp2_with fail;go_ret;exact⟨rfl,HB6.out⟩
end Rnd
namespace Rnd
open Go.RowKit
open Grd (Pt Fo tB)
def DQ3 (L:Nat):List Int->Nat->Option Nat
 | _,0=>some 0
 | [],_+1=>none
 | k::r,n+1=>if k < 0∨(L:Int) < k then none else (DQ3 L r (n+k.toNat)).map (·+1)
theorem EQ3 (L:Nat):∀ (f:Fo) (rest:List Pt) (n:Nat),f.good->f.size<=L->DQ3 L ((f.flat++rest).map Pt.n) (f.count+n)=(DQ3 L (rest.map Pt.n) n).map (·+f.size)
 | .nil,rest,n,_,_=>by simp only [Fo.flat,Fo.count,Fo.size,Ao,Nat.zero_add];cases DQ3 L (rest.map Pt.n) n <;> rfl
 | .cons p k r,rest,n,⟨h1,h2,h3⟩,hs=>by
  simp only [Fo.size] at hs;have hk:=EQ3 L k (r.flat++rest) (r.count+n) h2 Cf;have hr:=EQ3 L r rest n h3 Cf;have hc:k.count<=k.size:=count_le k;have hn:¬ (p.n < 0∨(L:Int) < p.n):=Cf
  have ht:p.n.toNat=k.count:=Cf
  simp only [Fo.flat,Al,List.append_assoc,List.map_cons,Fo.count];rw [show r.count+1+n=(r.count+n)+1 from Cf,DQ3,if_neg hn,ht,Nat.add_comm (r.count+n) k.count,hk,hr];cases DQ3 L (rest.map Pt.n) n with
  | none=>rfl
  | some x=>simp [Fo.size];omega
def QH (l:List Pt) (i:Nat):Int:=match DQ3 l.length ((l.map Pt.n).drop i) 1 with
 | some c=>((i+c:Nat):Int)
 | none=>-1
end Rnd
namespace Rnd
open Go.RowKit
open Grd (Pt Fo tB)
theorem dE {a b:Int} (h:a=b):Ending.returned (.int .i64 a)=Ending.returned (.int .i64 b):=by rw [h]
def TQ3 (l:List Pt) (i:Nat) (u1 u5:Value):Prop:=∃ (j n:Nat),u1=.int .i64 (j:Int)/\u5=.int .i64 (n:Int)/\j<=i+l.length/\n<=1+3000*j/\i<=j/\(n=0∨j<=l.length∨j=i) /\
 DQ3 l.length ((l.map Pt.n).drop i) 1=(DQ3 l.length ((l.map Pt.n).drop j) n).map (·+(j - i))
theorem PQ3 (l:List Pt) (j n:Nat) (p:Pt) (hp:l[j]?=some p):DQ3 l.length ((l.map Pt.n).drop j) (n+1)=if p.n < 0∨(l.length:Int) < p.n then none else (DQ3 l.length ((l.map Pt.n).drop (j+1)) (n+p.n.toNat)).map (·+1):=by
 have h1:j < l.length:=by
  rcases Nat.lt_or_ge j l.length with h|h
  ·exact h
  ·rw [Ap h] at hp;cases hp
 rw [M' h1] at hp;cases hp;rw [An Ee,DQ3,List.getElem_map]
theorem SQ3 (l:List Pt) (j n:Nat) (h:l.length<=j):DQ3 l.length ((l.map Pt.n).drop j) (n+1)=none:=by
 rw [List.drop_of_length_le Dc];rfl
theorem FQ3 {l:List Pt}{i j n:Nat} (h:DQ3 l.length ((l.map Pt.n).drop i) 1=(DQ3 l.length ((l.map Pt.n).drop j) n).map (·+(j - i))) (h2:DQ3 l.length ((l.map Pt.n).drop j) n=none):QH l i=-1:=by
 unfold QH;rw [h,h2];rfl
theorem MQ3 (b off cap:Nat) (l:List Pt) (i:Nat) (w:World) (hl:l.length<=3000) (hi:i<=3000)
  (hc:∀ (j:Nat) (p:Pt),l[j]?=some p->w.cell? ⟨b,off+j*3+1,none⟩=some (.int .i64 p.n)) :
  Calls Tryz.prog 15 #[.slice (some ⟨b,off,none⟩) l.length cap,.int .i64 (i:Int)] w fun e w'=>e=.returned (.int .i64 (QH l i))/\Below w.heap.size w w':=by
 have HC:=hid hc;clear hc;go_enter Tryz.func15,Tryz.ntmps15;go_wp2_with fail
 go_loopw [1,5] (fun u1 u5 w'=>TQ3 l i u1 u5/\w'=w) (fun u1 _ _=>((l.length+i:Int)+1 - intOf u1).toNat)
 case atStart=>exact⟨⟨i,1,rfl,rfl,Cf,Cf,Cf,.inr (.inr rfl),Cm⟩,rfl⟩
 case round =>
  obtain⟨⟨j,n,rfl,rfl,hj,hn,hij,hor,heq⟩,rfl⟩:=hrel;have HQ:=hid heq;clear heq;cases n with
  | zero =>
   go_wp2_with fail;go_ret;refine⟨dE ?_,J' _ _⟩;have:DQ3 l.length ((l.map Pt.n).drop j) 0=some 0:=by (cases (l.map Pt.n).drop j <;> rfl)
   unfold QH;rw [HQ.out,this];simp;omega
  | succ n =>
   by_cases hlt:j < l.length
   ·have hcj:=HC.out j l[j] (M' hlt);have hst:=PQ3 l j n l[j] (M' hlt);generalize l[j].n=k at *;have HST:=hid hst;have j0:(0:Int)<=(j:Int):=by omega
    have j1:(j:Int) < (l.length:Int):=Cf
    clear hst;by_cases hk0:k < 0
    ·have HR:=hid (FQ3 HQ.out (by rw [HST.out,if_pos (.inl hk0)]));go_wp2_with fail;go_ret;exact⟨dE (by rw [HR.out]),J' _ _⟩
    ·by_cases hk1:(l.length:Int) < k
     ·have HR:=hid (FQ3 HQ.out (by rw [HST.out,if_pos (.inr hk1)]));go_wp2_with fail;go_ret;exact⟨dE (by rw [HR.out]),J' _ _⟩
     ·obtain⟨kk,rfl⟩:=Aa (show 0<=k by omega);have hnx:DQ3 l.length ((l.map Pt.n).drop i) 1=(DQ3 l.length ((l.map Pt.n).drop (j+1)) (n+kk)).map (·+(j+1 - i)):=by
       rw [HQ.out,HST.out,if_neg Cf,Ae];cases DQ3 l.length ((l.map Pt.n).drop (j+1)) (n+kk) with
       | none=>rfl
       | some x=>simp;omega
      have HNX:=hid hnx;clear hnx;go_wp2_with fail;go_roundw
      case rel=>exact⟨⟨j+1,n+kk,Gv,Gv,Cf,Cf,Cf,.inr (.inl Cf),HNX.out⟩,trivial⟩
      case measure=>simp only [intOf];first|omega|(go_num;omega)|go_num
   ·have hr:=FQ3 HQ.out (SQ3 l j n Cf);have HR:=hid hr;clear hr;go_wp2_with fail;go_ret;exact⟨dE (by rw [HR.out]),J' _ _⟩
theorem OQ3 {l:List Pt} (h:Grd.DG (l.map Pt.n)=true):QH l 0=(l.length:Int):=by
 obtain⟨h1,h2,h3⟩:=LQ2 h;have hsz:(foL l).size=l.length:=by rw [<- Grd.Fo.flat_len,h1]
 have:=EQ3 l.length (foL l) [] 0 h2 Cf;rw [List.append_nil,h1,h3,hsz] at this;unfold QH;rw [List.drop_zero,this];simp [DQ3]
end Rnd
