import Derived.Test.YtfmpphplbdojbaaGreatDoorQBU
import Derived.Test.YtfmpphplbdojbaaGreatDoorQBV
import Derived.Handy
import Derived.Test.YtfmpphplbdojbaaGreatDoorQBW
namespace Go.Proofs.YtfmpphplbdojbaaGreatDoor
open Lib(hid)
set_option linter.all false
set_option maxHeartbeats 40000000
set_option maxRecDepth 100000
namespace Rnd
open Grd (Pt Fo)
def S (ts:List Tx):Nat:=(ts.map fun x=>x.2.length).sum
theorem xQ3 (a b:List Tx):S (a++b)=S a+S b:=by simp [S]
theorem wQ2 (ts:List Tx) (i:Nat):(tx ts i).length+S (ts.drop (i+1))=S (ts.drop i):=by
 by_cases h:i < ts.length
 ·rw [List.drop_eq_getElem_cons h,S,S,List.map_cons,List.sum_cons,tx,List.getElem?_eq_getElem h];rfl
 ·rw [List.drop_of_length_le (by omega),List.drop_of_length_le (by omega),tx,List.getElem?_eq_none (by omega)];rfl
theorem sQ2 (ts:List Tx) (n:Nat):S (ts.take n)+S (ts.drop n)=S ts:=by rw [← xQ3,List.take_append_drop]
theorem lQ3 (a t b:List UInt8):(WQ0 a t b).length≤a.length+t.length+b.length:=by unfold WQ0;split <;> simp <;> omega
theorem eQ3 (a t b:List UInt8):(VQ0 t a b).length≤a.length+t.length+b.length:=by unfold VQ0;split <;> simp <;> omega
theorem uQ3 (ts:List Tx) (i:Nat):(bQ1 ts i).length≤(tx ts i).length+1:=by unfold bQ1;split <;> simp
theorem yQ3 (ts:List Tx):(nlT ts).length≤1:=by cases ts <;> simp [nlT]
theorem tQ3 (m:List UInt8) (ts:List Tx):(BQ1 m ts).length=m.length*ts.length+S ts:=by
 induction ts with
 | nil=>rfl
 | cons x r ih=>simp only [BQ1,List.flatMap_cons,List.length_append,S,List.map_cons,List.sum_cons,List.length_cons,Nat.mul_add] at ih ⊢;omega
theorem qQ3 (m:List UInt8) (ts:List Tx):(cQ1 m ts).length≤m.length*ts.length+S ts:=by
 cases ts with
 | nil=>simp [cQ1]
 | cons x r=>simp only [cQ1,List.length_append,tQ3,S,List.map_cons,List.sum_cons,List.length_cons,Nat.mul_add];omega
theorem ZQ2 (ts:List Tx):(fQ1 ts).length=ts.length+S ts:=by
 induction ts with
 | nil=>rfl
 | cons x r ih=>simp only [fQ1,List.flatMap_cons,List.length_append,S,List.map_cons,List.sum_cons,List.length_cons,List.length_nil] at ih ⊢;omega
theorem sQ3 (ts:List Tx) (ss:List (List UInt8)):∀ n,n≤ss.length→((List.range n).flatMap (jQ1 ts ss)).length≤(ss.take n).flatten.length+S (ts.take n):=by
 intro n
 induction n with
 | zero=>intro _;simp
 | succ n ih =>
  intro h;have:=ih (by omega);rw [List.range_succ,List.flatMap_append,List.length_append,List.take_add_one,List.take_add_one,xQ3,List.flatten_append,List.length_append];have e1:ss[n]?=some ss[n]:=List.getElem?_eq_getElem (by omega);have h1:(List.flatMap (jQ1 ts ss) [n]).length≤(ss[n]?.toList).flatten.length+S (ts[n]?.toList):=by
   rw [e1];simp only [List.flatMap_cons,List.flatMap_nil,List.append_nil,jQ1,List.getD_eq_getElem?_getD,e1,Option.getD_some,List.length_append,Option.toList_some,List.flatten_cons,List.flatten_nil];split
   ·rename_i hh;simp only [tx,List.getElem?_eq_getElem hh.1,Option.map_some,Option.getD_some,Option.toList_some,S,List.map_cons,List.sum_cons,List.map_nil,List.sum_nil];omega
   ·simp
  omega
theorem vQ3 (ts:List Tx) (ss:List (List UInt8)):(xE ts ss).length≤ss.flatten.length+S ts:=by
 have h:=sQ2 ts ss.length;have:=sQ3 ts ss ss.length (Nat.le_refl _);rw [List.take_length] at this
 show ((List.range ss.length).flatMap (jQ1 ts ss)).length≤_
 omega
theorem AQ3 {a b:List UInt8}{m n:Nat} (h:a.length≤m) (k:b.length≤n):(a++b).length≤m+n:=by rw [List.length_append];omega
theorem BQ3 {x:UInt8}{a:List UInt8}{m:Nat} (h:a.length≤m):(x::a).length≤m+1:=by rw [List.length_cons];omega
theorem qU (k:Nat) (q:List UInt8) (ts:List Tx):(TQ0 k q ts).length≤q.length+40+S ts+3*ts.length:=by
 have t0:=wQ2 ts 0;have t1:=wQ2 ts 1;have t2:=wQ2 ts 2;have t3:=wQ2 ts 3;have t4:=wQ2 ts 4;have k1:=sQ2 ts 1;have k2:=sQ2 ts 2;have k3:=sQ2 ts 3;have k4:=sQ2 ts 4;have d4:=sQ2 (ts.take 4) 1;have d3:=sQ2 (ts.take 3) 1;rw [List.take_take,show min 1 4=1 from rfl] at d4;rw [List.take_take,show min 1 3=1 from rfl] at d3;rw [List.drop_zero] at t0;simp only [Nat.zero_add,Nat.reduceAdd] at t0 t1 t2 t3 t4;unfold TQ0;split
 all_goals try split
 all_goals
  refine Nat.le_trans (by
   repeat' with_reducible (first|exact lQ3 _ _ _|exact eQ3 _ _ _|exact uQ3 _ _|exact qQ3 _ _|exact Nat.le_of_eq (ZQ2 _)|exact vQ3 _ _|exact yQ3 _|apply AQ3|exact Nat.le_refl _)) ?_
  try simp only [List.length_cons,List.length_nil,List.length_append,List.flatten_cons,List.flatten_nil,List.length_take,List.length_drop,Nat.zero_add,Nat.reduceAdd]
  try omega
def tQ2 (raw:Nat→List UInt8):Nat→Nat→Nat
 | _,0=>0
 | o,n+1=>(raw o).length+tQ2 raw (o+1) n
theorem PQ2 (raw:Nat→List UInt8):∀ (m o n:Nat),tQ2 raw o (m+n)=tQ2 raw o m+tQ2 raw (o+m) n
 | 0,o,n=>by simp [tQ2]
 | m+1,o,n=>by
  rw [show m+1+n=(m+n)+1 by omega,tQ2,tQ2,PQ2 raw m (o+1) n,show o+1+m=o+(m+1) by omega];omega
def EQ2 (l:List Pt):Nat:=(l.map fun p=>p.w.length+43).sum
theorem WQ2:∀ (l:List Pt) (M:Nat),(∀ p∈l,p.w.length≤M)→EQ2 l≤l.length*(M+43)
 | [],_,_=>by simp [EQ2]
 | p::r,M,h=>by
  have h1:=WQ2 r M (fun q hq=>h q (by simp [hq]));have h2:=h p (by simp);simp only [EQ2,List.map_cons,List.sum_cons,List.length_cons,Nat.add_mul,Nat.one_mul] at h1 ⊢;omega
theorem TQ2 (raw:Nat→List UInt8):∀ (f:Fo) (o:Nat),S (txF raw f o)+3*f.count≤EQ2 f.flat+tQ2 raw o f.size
 | .nil,_=>by simp [txF,S,Fo.count]
 | .cons p k r,o=>by
  have h1:=TQ2 raw k (o+1);have h2:=TQ2 raw r (o+1+k.size);have h3:=qU p.k.toNat p.w (txF raw k (o+1));have h4:=KQ1 raw k (o+1);have h5:tQ2 raw o (1+k.size+r.size)=(raw o).length+tQ2 raw (o+1) k.size+tQ2 raw (o+1+k.size) r.size:=by
   rw [PQ2,show 1+k.size=k.size+1 by omega,tQ2,show o+(k.size+1)=o+1+k.size by omega]
  have h6:EQ2 (p::(k.flat++r.flat))=p.w.length+43+EQ2 k.flat+EQ2 r.flat:=by
   simp only [EQ2,List.map_cons,List.sum_cons,List.map_append,List.sum_append];omega
  simp only [txF,Fo.count,Fo.flat,Fo.size,h5,h6];have h7:∀ a,S ((p.k,a)::txF raw r (o+1+k.size))=a.length+S (txF raw r (o+1+k.size)):=fun a=>by simp [S]
  rw [h7];split <;> omega
theorem pQ3 (l:List Pt) (raw:Nat→List UInt8) (h:fF l=true):(pQ2 l raw).length≤EQ2 l+tQ2 raw 0 l.length:=by
 have hc':Grd.DG (l.map Pt.n)=true:=by simp [fF] at h;exact h.1
 obtain⟨h1,h2,h3⟩:=LQ2 hc';have h4:=TQ2 raw (foL l) 0;have h5:=wQ2 (txF raw (foL l) 0) 0;rw [h1,← Grd.Fo.flat_len,h1] at h4;unfold pQ2;rw [List.drop_zero] at h5;omega
theorem MQ2:∀ (n o:Nat),tQ2 (fun _=>[]) o n=0
 | 0,_=>rfl
 | n+1,o=>by rw [tQ2,MQ2 n];rfl
end Rnd
namespace Rnd
open Go.RowKit
open Grd (Pt Fo tB)
theorem TG {a b:Value} (h:a=b):Ending.returned a=.returned b:=by rw [h]
def eqP (p q:Pt):Bool:=p.k==q.k&&p.n==q.n&&p.w==q.w
theorem oQ2 (p q:Pt):eqP p q=true↔p=q:=by
 obtain⟨a,b,c⟩:=p;obtain⟨a',b',c'⟩:=q;simp [eqP,and_assoc]
def eqL:List Pt→List Pt→Bool
 | [],[]=>true
 | p::r,q::s=>eqP p q&&eqL r s
 | _,_=>false
theorem uQ2:∀ (a b:List Pt),eqL a b=true↔a=b
 | [],[]=>by simp [eqL]
 | [],_::_=>by simp [eqL]
 | _::_,[]=>by simp [eqL]
 | p::r,q::s=>by simp [eqL,oQ2,uQ2 r s]
theorem XQ2:∀ (a b:List Pt),a.length≠b.length→eqL a b=false:=by
 intro a b h;cases he:eqL a b
 ·rfl
 ·rw [uQ2] at he;exact absurd (by rw [he]) h
theorem KQ2 (a b:List Pt) (i:Nat) (p q:Pt) (hp:a[i]?=some p) (hq:b[i]?=some q):eqL (a.drop i) (b.drop i)=(eqP p q&&eqL (a.drop (i+1)) (b.drop (i+1))):=by
 have h1:i < a.length:=by
  rcases Nat.lt_or_ge i a.length with h|h
  ·exact h
  ·rw [List.getElem?_eq_none h] at hp;cases hp
 have h2:i < b.length:=by
  rcases Nat.lt_or_ge i b.length with h|h
  ·exact h
  ·rw [List.getElem?_eq_none h] at hq;cases hq
 rw [List.drop_eq_getElem_cons h1,List.drop_eq_getElem_cons h2,eqL];rw [List.getElem?_eq_getElem h1] at hp;rw [List.getElem?_eq_getElem h2] at hq;cases hp;cases hq;rfl
theorem wQ3 (x o y u c1 c2:Nat) (a b:List Pt) (w:World) (hl:a.length≤1099511627776) (hab:a.length=b.length) (hx:x < w.heap.size) (hy:y < w.heap.size)
  (ha:∀ j p,a[j]?=some p→w.cell? ⟨x,o+j*3,none⟩=some (.int .u8 (p.k.toNat:Int))∧w.cell? ⟨x,o+j*3+1,none⟩=some (.int .i64 p.n)∧w.cell? ⟨x,o+j*3+2,none⟩=some (.string ⟨p.w.toArray⟩))
  (hb:∀ j p,b[j]?=some p→w.cell? ⟨y,u+j*3,none⟩=some (.int .u8 (p.k.toNat:Int))∧w.cell? ⟨y,u+j*3+1,none⟩=some (.int .i64 p.n)∧w.cell? ⟨y,u+j*3+2,none⟩=some (.string ⟨p.w.toArray⟩)) :
  Calls Tryz.prog 18 #[.slice (some ⟨x,o,none⟩) a.length c1,.slice (some ⟨y,u,none⟩) b.length c2] w fun e w'=>e=.returned (.bool (eqL a b))∧Below w.heap.size w w':=by
 have hd:((a.length:Int)==(b.length:Int))=true:=by rw [beq_iff_eq];omega
 have HA:=hid (And.intro ha hb);have HE:=hid hab;clear ha hb;rw [← hab] at hd ⊢;clear hab;go_enter Tryz.func18,Tryz.ntmps18;go_wp2_with fail
 go_loopw [5] (fun v w'=>∃ i:Nat,v=.int .i64 (i:Int)∧i≤a.length∧eqL (a.drop i) (b.drop i)=eqL a b∧Below w.heap.size w w') (fun v _=>((a.length:Int) - intOf v).toNat)
 case atStart=>exact⟨0,rfl,by omega,by simp,Below.refl _ _⟩
 case round =>
  obtain⟨i,rfl,hi,heq,hbel⟩:=hrel;by_cases hlt:i < a.length
  ·have HQ:=hid heq;have hib:i < b.length:=by have:=HE.out;omega
   obtain⟨p0,p1,p2⟩:=HA.out.1 i a[i] (List.getElem?_eq_getElem hlt);obtain⟨q0,q1,q2⟩:=HA.out.2 i b[i] (List.getElem?_eq_getElem hib);have p0:=eQ2 hbel hx p0;have p1:=eQ2 hbel hx p1;have p2:=eQ2 hbel hx p2;have q0:=eQ2 hbel hy q0;have q1:=eQ2 hbel hy q1;have q2:=eQ2 hbel hy q2;have hst:=KQ2 a b i a[i] b[i] (List.getElem?_eq_getElem hlt) (List.getElem?_eq_getElem hib);have HST:=hid hst;generalize a[i]=p at *;generalize b[i]=q at *;have i0:(0:Int)≤(i:Int):=by omega
   have i1:(i:Int) < (a.length:Int):=by omega
   clear hst hib heq;obtain⟨k1,n1,s1⟩:=p;obtain⟨k2,n2,s2⟩:=q;simp only [] at p0 p1 p2 q0 q1 q2;by_cases hk:k1=k2
   ·subst hk;by_cases hn:n1=n2
    ·subst hn;by_cases hs:s1=s2
     ·subst hs;have hf:eqP ⟨k1,n1,s1⟩ ⟨k1,n1,s1⟩=true:=(oQ2 _ _).2 rfl;have HF:=hid hf;clear hf;go_wp2_with fail
      go_region_held3 (fun w'=>w'.cell? ⟨x,o+i*3,none⟩=some (.int .u8 (k1.toNat:Int))∧w'.cell? ⟨x,o+i*3+1,none⟩=some (.int .i64 n1)∧w'.cell? ⟨x,o+i*3+2,none⟩=some (.string ⟨s1.toArray⟩) ∧
     w'.cell? ⟨y,u+i*3,none⟩=some (.int .u8 (k1.toNat:Int))∧w'.cell? ⟨y,u+i*3+1,none⟩=some (.int .i64 n1)∧w'.cell? ⟨y,u+i*3+2,none⟩=some (.string ⟨s1.toArray⟩)) (go_keep) (first|fail)
      go_wp2_with fail;go_roundw
      case rel=>exact⟨i+1,by go_num,by omega,by rw [← HQ.out,HST.out,HF.out];rfl,hbel.drew⟩
      case measure=>simp only [intOf];first|omega|(go_num;omega)|go_num
     ·have hs':¬ ((⟨s1.toArray⟩:ByteArray)=⟨s2.toArray⟩):=fun e=>hs (by simpa using e)
      have hf:eqP ⟨k1,n1,s1⟩ ⟨k1,n1,s2⟩=false:=by cases h:eqP ⟨k1,n1,s1⟩ ⟨k1,n1,s2⟩ with|false=>rfl|true=>rw [oQ2] at h;cases h;exact absurd rfl hs
      have HF:=hid hf;clear hf;go_wp2_with fail
      go_region_held3 (fun w'=>w'.cell? ⟨x,o+i*3,none⟩=some (.int .u8 (k1.toNat:Int))∧w'.cell? ⟨x,o+i*3+1,none⟩=some (.int .i64 n1)∧w'.cell? ⟨x,o+i*3+2,none⟩=some (.string ⟨s1.toArray⟩) ∧
       w'.cell? ⟨y,u+i*3,none⟩=some (.int .u8 (k1.toNat:Int))∧w'.cell? ⟨y,u+i*3+1,none⟩=some (.int .i64 n1)∧w'.cell? ⟨y,u+i*3+2,none⟩=some (.string ⟨s2.toArray⟩)) (go_keep) (first|fail)
      go_wp2_with fail;go_ret;refine⟨TG ?_,hbel.drew⟩;rw [← HQ.out,HST.out,HF.out];rfl
    ·have hf:eqP ⟨k1,n1,s1⟩ ⟨k1,n2,s2⟩=false:=by cases h:eqP ⟨k1,n1,s1⟩ ⟨k1,n2,s2⟩ with|false=>rfl|true=>rw [oQ2] at h;cases h;exact absurd rfl hn
     have HF:=hid hf;clear hf;go_wp2_with fail
     go_region_held3 (fun w'=>w'.cell? ⟨x,o+i*3,none⟩=some (.int .u8 (k1.toNat:Int))∧w'.cell? ⟨x,o+i*3+1,none⟩=some (.int .i64 n1)∧w'.cell? ⟨x,o+i*3+2,none⟩=some (.string ⟨s1.toArray⟩) ∧
      w'.cell? ⟨y,u+i*3,none⟩=some (.int .u8 (k1.toNat:Int))∧w'.cell? ⟨y,u+i*3+1,none⟩=some (.int .i64 n2)∧w'.cell? ⟨y,u+i*3+2,none⟩=some (.string ⟨s2.toArray⟩)) (go_keep) (first|fail)
     go_wp2_with fail;go_ret;refine⟨TG ?_,hbel.drew⟩;rw [← HQ.out,HST.out,HF.out];rfl
   ·have hk':¬ ((k1.toNat:Int)=(k2.toNat:Int)):=fun e=>hk (UInt8.toNat_inj.1 (by omega))
    have hf:eqP ⟨k1,n1,s1⟩ ⟨k2,n2,s2⟩=false:=by cases h:eqP ⟨k1,n1,s1⟩ ⟨k2,n2,s2⟩ with|false=>rfl|true=>rw [oQ2] at h;cases h;exact absurd rfl hk
    have HF:=hid hf;clear hf;go_wp2_with fail
    go_region_held3 (fun w'=>w'.cell? ⟨x,o+i*3,none⟩=some (.int .u8 (k1.toNat:Int))∧w'.cell? ⟨x,o+i*3+1,none⟩=some (.int .i64 n1)∧w'.cell? ⟨x,o+i*3+2,none⟩=some (.string ⟨s1.toArray⟩) ∧
     w'.cell? ⟨y,u+i*3,none⟩=some (.int .u8 (k2.toNat:Int))∧w'.cell? ⟨y,u+i*3+1,none⟩=some (.int .i64 n2)∧w'.cell? ⟨y,u+i*3+2,none⟩=some (.string ⟨s2.toArray⟩)) (go_keep) (first|fail)
    go_wp2_with fail;go_ret;refine⟨TG ?_,hbel.drew⟩;rw [← HQ.out,HST.out,HF.out];rfl
  ·have:i=a.length:=by omega
   subst this;go_wp2_with fail;go_ret;refine⟨TG ?_,hbel⟩;rw [← heq,List.drop_length,HE.out,List.drop_length];rfl
theorem OQ2 (xa ya:Option Addr) (c1 c2:Nat) (a b:List Pt) (w:World) (hl:a.length≤1099511627776) (ha:tB w xa a) (hb:tB w ya b) :
  Calls Tryz.prog 18 #[.slice xa a.length c1,.slice ya b.length c2] w fun e w'=>e=.returned (.bool (eqL a b))∧Below w.heap.size w w':=by
 by_cases hab:a.length=b.length
 ·by_cases h0:a=[]
  ·subst h0;have hb0:b=[]:=List.eq_nil_of_length_eq_zero (by simpa using hab.symm);subst hb0;go_enter Tryz.func18,Tryz.ntmps18;go_wp2_with fail;refine wp_loop_rounds 1 ?_;rw [rounds_succ];go_wp2_with fail;go_ret;exact⟨rfl,Below.refl _ _⟩
  ·have hb0:b≠[]:=fun e=>h0 (List.eq_nil_of_length_eq_zero (by rw [hab,e];rfl))
   obtain⟨x,o,rfl,hx,hxa⟩:=ha.resolve_left h0;obtain⟨y,u,rfl,hy,hyb⟩:=hb.resolve_left hb0;exact wQ3 x o y u c1 c2 a b w hl hab hx hy hxa hyb
 ·have hd:((a.length:Int)==(b.length:Int))=false:=by rw [beq_eq_false_iff_ne];omega
  have HF:=hid (XQ2 a b hab);clear hab ha hb;go_enter Tryz.func18,Tryz.ntmps18;go_wp2_with fail;go_ret;exact⟨TG (by rw [HF.out];rfl),Below.refl _ _⟩
theorem fQ3 (x o y u c1 c2:Nat) (a b:List Pt) (w:World) (hl:a.length≤1099511627776) (hab:a.length=b.length) (hx:x < w.heap.size) (hy:y < w.heap.size)
  (ha:∀ j p,a[j]?=some p→w.cell? ⟨x,o+j*3,none⟩=some (.int .u8 (p.k.toNat:Int))∧w.cell? ⟨x,o+j*3+1,none⟩=some (.int .i64 p.n)∧w.cell? ⟨x,o+j*3+2,none⟩=some (.string ⟨p.w.toArray⟩))
  (hb:∀ j p,b[j]?=some p→w.cell? ⟨y,u+j*3,none⟩=some (.int .u8 (p.k.toNat:Int))∧w.cell? ⟨y,u+j*3+1,none⟩=some (.int .i64 p.n)∧w.cell? ⟨y,u+j*3+2,none⟩=some (.string ⟨p.w.toArray⟩)) :
  Calls Tryz.prog 26 #[.slice (some ⟨x,o,none⟩) a.length c1,.slice (some ⟨y,u,none⟩) b.length c2] w fun e w'=>e=.returned (.bool (eqL a b))∧Below w.heap.size w w':=by
 have hd:((a.length:Int)==(b.length:Int))=true:=by rw [beq_iff_eq];omega
 have HA:=hid (And.intro ha hb);have HE:=hid hab;clear ha hb;rw [← hab] at hd ⊢;clear hab;go_enter Tryz.func26,Tryz.ntmps26;go_wp2_with fail
 go_loopw [14] (fun v w'=>∃ i:Nat,v=.int .i64 (i:Int)∧i≤a.length∧eqL (a.drop i) (b.drop i)=eqL a b∧Below w.heap.size w w') (fun v _=>((a.length:Int) - intOf v).toNat)
 case atStart=>exact⟨0,rfl,by omega,by simp,Below.refl _ _⟩
 case round =>
  obtain⟨i,rfl,hi,heq,hbel⟩:=hrel;by_cases hlt:i < a.length
  ·have HQ:=hid heq;have hib:i < b.length:=by have:=HE.out;omega
   obtain⟨p0,p1,p2⟩:=HA.out.1 i a[i] (List.getElem?_eq_getElem hlt);obtain⟨q0,q1,q2⟩:=HA.out.2 i b[i] (List.getElem?_eq_getElem hib);have p0:=eQ2 hbel hx p0;have p1:=eQ2 hbel hx p1;have p2:=eQ2 hbel hx p2;have q0:=eQ2 hbel hy q0;have q1:=eQ2 hbel hy q1;have q2:=eQ2 hbel hy q2;have hst:=KQ2 a b i a[i] b[i] (List.getElem?_eq_getElem hlt) (List.getElem?_eq_getElem hib);have HST:=hid hst;generalize a[i]=p at *;generalize b[i]=q at *;have i0:(0:Int)≤(i:Int):=by omega
   have i1:(i:Int) < (a.length:Int):=by omega
   clear hst hib heq;obtain⟨k1,n1,s1⟩:=p;obtain⟨k2,n2,s2⟩:=q;simp only [] at p0 p1 p2 q0 q1 q2;by_cases hk:k1=k2
   ·subst hk;by_cases hn:n1=n2
    ·subst hn;by_cases hs:s1=s2
     ·subst hs;have hf:eqP ⟨k1,n1,s1⟩ ⟨k1,n1,s1⟩=true:=(oQ2 _ _).2 rfl;have HF:=hid hf;clear hf;go_wp2_with fail
      go_region_held3 (fun w'=>w'.cell? ⟨wr.heap.size,0,none⟩=some (.int .u8 (k1.toNat:Int))∧w'.cell? ⟨wr.heap.size,1,none⟩=some (.int .i64 n1)∧w'.cell? ⟨wr.heap.size,2,none⟩=some (.string ⟨s1.toArray⟩) ∧
     w'.cell? ⟨y,u+i*3,none⟩=some (.int .u8 (k1.toNat:Int))∧w'.cell? ⟨y,u+i*3+1,none⟩=some (.int .i64 n1)∧w'.cell? ⟨y,u+i*3+2,none⟩=some (.string ⟨s1.toArray⟩)) (go_keep) (first|fail)
      go_wp2_with fail;go_roundw
      case rel=>exact⟨i+1,by go_num,by omega,by rw [← HQ.out,HST.out,HF.out];rfl,(hbel.alloc hbel.size _).drew⟩
      case measure=>simp only [intOf];first|omega|(go_num;omega)|go_num
     ·have hs':¬ ((⟨s1.toArray⟩:ByteArray)=⟨s2.toArray⟩):=fun e=>hs (by simpa using e)
      have hf:eqP ⟨k1,n1,s1⟩ ⟨k1,n1,s2⟩=false:=by cases h:eqP ⟨k1,n1,s1⟩ ⟨k1,n1,s2⟩ with|false=>rfl|true=>rw [oQ2] at h;cases h;exact absurd rfl hs
      have HF:=hid hf;clear hf;go_wp2_with fail
      go_region_held3 (fun w'=>w'.cell? ⟨wr.heap.size,0,none⟩=some (.int .u8 (k1.toNat:Int))∧w'.cell? ⟨wr.heap.size,1,none⟩=some (.int .i64 n1)∧w'.cell? ⟨wr.heap.size,2,none⟩=some (.string ⟨s1.toArray⟩) ∧
       w'.cell? ⟨y,u+i*3,none⟩=some (.int .u8 (k1.toNat:Int))∧w'.cell? ⟨y,u+i*3+1,none⟩=some (.int .i64 n1)∧w'.cell? ⟨y,u+i*3+2,none⟩=some (.string ⟨s2.toArray⟩)) (go_keep) (first|fail)
      go_wp2_with fail;go_ret;refine⟨TG ?_,(hbel.alloc hbel.size _).drew⟩;rw [← HQ.out,HST.out,HF.out];rfl
    ·have hf:eqP ⟨k1,n1,s1⟩ ⟨k1,n2,s2⟩=false:=by cases h:eqP ⟨k1,n1,s1⟩ ⟨k1,n2,s2⟩ with|false=>rfl|true=>rw [oQ2] at h;cases h;exact absurd rfl hn
     have HF:=hid hf;clear hf;go_wp2_with fail
     go_region_held3 (fun w'=>w'.cell? ⟨wr.heap.size,0,none⟩=some (.int .u8 (k1.toNat:Int))∧w'.cell? ⟨wr.heap.size,1,none⟩=some (.int .i64 n1)∧w'.cell? ⟨wr.heap.size,2,none⟩=some (.string ⟨s1.toArray⟩) ∧
      w'.cell? ⟨y,u+i*3,none⟩=some (.int .u8 (k1.toNat:Int))∧w'.cell? ⟨y,u+i*3+1,none⟩=some (.int .i64 n2)∧w'.cell? ⟨y,u+i*3+2,none⟩=some (.string ⟨s2.toArray⟩)) (go_keep) (first|fail)
     go_wp2_with fail;go_ret;refine⟨TG ?_,(hbel.alloc hbel.size _).drew⟩;rw [← HQ.out,HST.out,HF.out];rfl
   ·have hk':¬ ((k1.toNat:Int)=(k2.toNat:Int)):=fun e=>hk (UInt8.toNat_inj.1 (by omega))
    have hf:eqP ⟨k1,n1,s1⟩ ⟨k2,n2,s2⟩=false:=by cases h:eqP ⟨k1,n1,s1⟩ ⟨k2,n2,s2⟩ with|false=>rfl|true=>rw [oQ2] at h;cases h;exact absurd rfl hk
    have HF:=hid hf;clear hf;go_wp2_with fail
    go_region_held3 (fun w'=>w'.cell? ⟨wr.heap.size,0,none⟩=some (.int .u8 (k1.toNat:Int))∧w'.cell? ⟨wr.heap.size,1,none⟩=some (.int .i64 n1)∧w'.cell? ⟨wr.heap.size,2,none⟩=some (.string ⟨s1.toArray⟩) ∧
     w'.cell? ⟨y,u+i*3,none⟩=some (.int .u8 (k2.toNat:Int))∧w'.cell? ⟨y,u+i*3+1,none⟩=some (.int .i64 n2)∧w'.cell? ⟨y,u+i*3+2,none⟩=some (.string ⟨s2.toArray⟩)) (go_keep) (first|fail)
    go_wp2_with fail;go_ret;refine⟨TG ?_,(hbel.alloc hbel.size _).drew⟩;rw [← HQ.out,HST.out,HF.out];rfl
  ·have:i=a.length:=by omega
   subst this;go_wp2_with fail;go_ret;refine⟨TG ?_,hbel⟩;rw [← heq,List.drop_length,HE.out,List.drop_length];rfl
theorem cQ3 (xa ya:Option Addr) (c1 c2:Nat) (a b:List Pt) (w:World) (hl:a.length≤1099511627776) (ha:tB w xa a) (hb:tB w ya b) :
  Calls Tryz.prog 26 #[.slice xa a.length c1,.slice ya b.length c2] w fun e w'=>e=.returned (.bool (eqL a b))∧Below w.heap.size w w':=by
 by_cases hab:a.length=b.length
 ·by_cases h0:a=[]
  ·subst h0;have hb0:b=[]:=List.eq_nil_of_length_eq_zero (by simpa using hab.symm);subst hb0;go_enter Tryz.func26,Tryz.ntmps26;go_wp2_with fail;refine wp_loop_rounds 1 ?_;rw [rounds_succ];go_wp2_with fail;go_ret;exact⟨rfl,Below.refl _ _⟩
  ·have hb0:b≠[]:=fun e=>h0 (List.eq_nil_of_length_eq_zero (by rw [hab,e];rfl))
   obtain⟨x,o,rfl,hx,hxa⟩:=ha.resolve_left h0;obtain⟨y,u,rfl,hy,hyb⟩:=hb.resolve_left hb0;exact fQ3 x o y u c1 c2 a b w hl hab hx hy hxa hyb
 ·have hd:((a.length:Int)==(b.length:Int))=false:=by rw [beq_eq_false_iff_ne];omega
  have HF:=hid (XQ2 a b hab);clear hab ha hb;go_enter Tryz.func26,Tryz.ntmps26;go_wp2_with fail;go_ret;exact⟨TG (by rw [HF.out];rfl),Below.refl _ _⟩
end Rnd
namespace Rnd
open Go.RowKit
open Grd (Pt Fo tB)
variable {w w':World}
def mQ2 (s:List UInt8) (l:List Tk) (t:Tr):List Pt:=(parts ⟨s,l,[]⟩ t).map ptG
def jQ2 (l:List Pt):List UInt8:=pQ2 l fun _=>[]
def rQ2 (goal:UInt8) (l:List Pt):Bool:=fF l&&(decide ((jQ2 l).length≤65536)&&(match tD kE goal (jQ2 l) with|.ok k t=>eqL l (mQ2 (jQ2 l) k t)|.bad _ _=>false))
theorem BQ2 (a:Option Addr) (cap:Nat) (l:List Pt) (hp:tB w a l) (hl:l.length≤100000) (hw:∀ p∈l,p.w.length≤1048576) (hT:NC w) :
  Calls Tryz.prog 10 #[.slice a l.length cap] w fun e w'=>(∃ (s:List UInt8) (er:Int),e=.returned (.tuple #[.string ⟨s.toArray⟩,.int .i64 er])∧(if fF l=true∧(jQ2 l).length≤65536 then s=jQ2 l∧er=0 else s=[]∧(er==0)=false))∧Below w.heap.size w w':=by
 refine (nQ3 a cap l hp (by omega) hw hT (fun hc=>?_)).mono fun e w' ⟨he,hb⟩=>⟨?_,hb⟩
 ·have h1:=pQ3 l (fun _=>[]) hc;have h2:=WQ2 l 1048576 hw;rw [MQ2] at h1;have h3:l.length*(1048576+43)≤100000*(1048576+43):=Nat.mul_le_mul_right _ hl;omega
 ·subst he;unfold DQ2;by_cases hc:fF l=true
  ·rw [if_pos hc];unfold AQ2;by_cases hs:65536 < (pQ2 l fun _=>[]).length
   ·rw [if_pos hs,if_pos hs];exact⟨[],2,rfl,by rw [if_neg (fun h=>by have:=h.2;unfold jQ2 at this;omega)];exact⟨rfl,by decide⟩⟩
   ·rw [if_neg hs,if_neg hs];exact⟨_,0,rfl,by rw [if_pos ⟨hc,by unfold jQ2;omega⟩];exact⟨rfl,rfl⟩⟩
  ·rw [if_neg hc];exact⟨[],8,rfl,by rw [if_neg (fun h=>hc h.1)];exact⟨rfl,by decide⟩⟩
theorem CQ2 (goal:UInt8) (a:Option Addr) (cap:Nat) (l:List Pt) (hp:tB w a l) (hl:l.length≤100000) (hw:∀ p∈l,p.w.length≤1048576) (hT:NC w) :
  Calls Tryz.prog 16 #[.int .u8 (goal.toNat:Int),.slice a l.length cap] w fun e w'=>e=.returned (.bool (rQ2 goal l))∧Below w.heap.size w w':=by
 have HX:=hid (BQ2 a cap l hp hl hw hT);have HP:=hid hp;have HT:=hid hT;have HLL:=hid hl;clear hp hw hT;go_enter Tryz.func16,Tryz.ntmps16;go_wp2_with fail;refine HX.out.mono ?_;rintro e w2 ⟨⟨s,er,rfl,hs⟩,hb2⟩;have HB2:=hid hb2;have HS:=hid hs;clear hb2 hs;by_cases hok:fF l=true∧(jQ2 l).length≤65536
 ·have hs:=HS.out;rw [if_pos hok] at hs;obtain⟨rfl,rfl⟩:=hs;have HF:Hid (rQ2 goal l=(match tD kE goal (jQ2 l) with|.ok k t=>eqL l (mQ2 (jQ2 l) k t)|.bad _ _=>false)):=hid (by unfold rQ2;rw [hok.1,decide_eq_true hok.2];rfl);clear HS hok;have HM:=hid (nV goal (jQ2 l) w2 (HT.out.below HB2.out));generalize jQ2 l=s at *;obtain⟨r,hr⟩:∃ r,r=tD kE goal s:=⟨_,rfl⟩;rw [← hr] at HM HF;have HR:=hid hr;clear hr;obtain⟨er,her⟩:∃ er,er=(US r).1:=⟨_,rfl⟩;obtain⟨ea,hea⟩:∃ ea,ea=(US r).2:=⟨_,rfl⟩;rw [← her,← hea] at HM;have HE:=hid (And.intro her hea);clear her hea;go_wp2_with fail;refine HM.out.mono ?_;rintro e w3 ⟨pa,pn,pc,rfl,hq3,hb3⟩;have HQ:=hid hq3;have HB3:=hid hb3;clear hq3 hb3;cases r with
  | bad e0 a0 =>
   obtain⟨h1,h2⟩:=HE.out;have hne0:e0≠0:=QP gM HR.out.symm;have h3:er=e0:=h1;have h4:ea=a0:=h2;subst h3;subst h4;have k1:(er==0)=false:=by simpa using hne0
   have k2:((er:Int)==0)=false:=by simp;omega
   have k4:¬ (er:Int)=0:=by omega
   have HF2:Hid (rQ2 goal l=false):=hid HF.out;clear h1 h2 hne0 HF;go_wp2_with fail;go_ret;exact⟨TG (by rw [HF2.out];rfl),(dA HB2.out HB3.out).alloc (dA HB2.out HB3.out).size _⟩
  | ok k t =>
   obtain⟨h1,h2⟩:=HE.out;have h3:er=0:=h1;have h4:ea=0:=h2;subst h3;subst h4;clear h1 h2;have q1:w3.ownsRow w2.heap.size 46 3 (.slice pa pn pc) (parts ⟨s,k,[]⟩ t).length (CF (parts ⟨s,k,[]⟩ t)):=HQ.out;have e1:pn=(parts ⟨s,k,[]⟩ t).length:=by
    obtain⟨_,_,e⟩:=Grd.ID q1;cases e;rfl
   subst e1;have hPA:tB w3 pa (mQ2 s k t):=qP q1 rfl;have e1:(parts ⟨s,k,[]⟩ t).length=(mQ2 s k t).length:=by unfold mQ2;rw [List.length_map]
   rw [e1];have HSM:=hid (fun wx (hb:Below w3.heap.size w3 wx)=>cQ3 (w:=wx) a pa cap pc l (mQ2 s k t) (by have:=HLL.out;omega) (HP.out.later (dA (dA HB2.out HB3.out) hb)) (hPA.later hb));have HF2:Hid (rQ2 goal l=eqL l (mQ2 s k t)):=hid HF.out;clear hPA e1 HF q1;go_wp2_with fail;have hbA:=(Below.refl w3.heap.size w3).alloc (Nat.le_refl _) (Obj.cells #[.int .i64 0,.int .i64 0] 35);refine (HSM.out _ hbA).mono ?_;rintro e w4 ⟨rfl,hb4⟩;have hb5:=hid (dA (dA (dA HB2.out HB3.out) hbA) hb4);clear hb4 hbA;go_wp2_with fail;go_ret;exact⟨TG (by rw [HF2.out];rfl),hb5.out⟩
 ·have hs:=HS.out;rw [if_neg hok] at hs;obtain⟨rfl,he⟩:=hs;have HF:Hid (rQ2 goal l=false):=hid (by
   unfold rQ2;by_cases hc:fF l=true
   ·rw [decide_eq_false (fun h=>hok ⟨hc,h⟩)];simp
   ·rw [Bool.eq_false_iff.2 hc];rfl)
  have he2:(er != 0)=true:=by simpa using he
  clear HS hok;go_wp2_with fail;go_ret;exact⟨TG (by rw [HF.out];rfl),HB2.out⟩
end Rnd
end Go.Proofs.YtfmpphplbdojbaaGreatDoor
