import Derived.Test.YtjdllofmhglmiaaGreatDoorShelf
import Derived.Test.YtjdllofmhglmiaaGreatDoorQAF
import Derived.Lib.TrimU
import Derived.Lib.AppendIntMem
namespace Go.Proofs.YtjdllofmhglmiaaGreatDoor
open Lib(hid)
set_option linter.all false
set_option maxHeartbeats 40000000
set_option maxRecDepth 100000
section
open Go.RowKit
def NC (w:World):Prop:=Lib.Utf8Tabs 1 2 w/\∃ m,w.cell? ⟨0,0,none⟩=some (i8 m)
theorem NC.below {w w':World} (h:NC w) (hb:Below w.heap.size w w'):NC w':=by
 obtain⟨⟨h1,h2⟩,m,h3⟩:=h;exact⟨⟨fun c hc=>aA hb (h1 c hc),fun i hi=>⟨aA hb (h2 i hi).1,aA hb (h2 i hi).2⟩⟩,m,aA hb h3⟩
theorem NC.drew {w:World} (h:NC w):NC w.drew:=h.below (N' _ _).drew
theorem NC.drewN {w:World} (h:NC w) (n:Nat):NC (w.drewN n):=h
end
section
open Go.RowKit
variable {w:World}
def iD:List (Int × Int):=[(65,90),(95,95),(97,122),(170,170),(181,181),(186,186),(192,214),(216,246),(248,705),(880,883),(886,887),(891,893),(902,902),(904,906),(908,908),(910,929),(931,1013),(1024,1153),(1162,1327),(1329,1366),(1377,1415),(1488,1514),(1568,1610),(2308,2361),(3585,3632),(4256,4293),(7680,7957),(12353,12438),(12449,12538),(19968,40959),(44032,55203),(66560,66639),(131072,173791)]
def oB (r:Int):Bool:=iD.any fun p=>decide (p.1<=r)&&decide (r<=p.2)
def digitB (r:Int):Bool:=([48,1632,2406,3664,65296]:List Int).any fun d=>decide (d<=r)&&decide (r<=d+9)
def RI (r:Int):Bool:=r==32||r==9||r==10||r==13
def CP:List (Int × Int)->List Value
 | []=>[]
 | p::l=>.int .i32 p.1::.int .i32 p.2::CP l
def UA:Array Value:=(CP iD).toArray
def DH:Array Value:=#[.int .i32 0,.int .i32 0,.int .i32 0,.int .i32 0,.int .i32 0,.int .i32 0,.int .i32 0,.int .i32 0,.int .i32 0,.int .i32 0,.int .i32 0,.int .i32 0,.int .i32 0,.int .i32 0,.int .i32 0,.int .i32 0,.int .i32 0,.int .i32 0,.int .i32 0,.int .i32 0,.int .i32 0,.int .i32 0,.int .i32 0,.int .i32 0,.int .i32 0,.int .i32 0,.int .i32 0,.int .i32 0,.int .i32 0,.int .i32 0,.int .i32 0,.int .i32 0,.int .i32 0,.int .i32 0,.int .i32 0,.int .i32 0,.int .i32 0,.int .i32 0,.int .i32 0,.int .i32 0,.int .i32 0,.int .i32 0,.int .i32 0,.int .i32 0,.int .i32 0,.int .i32 0,.int .i32 0,.int .i32 0,.int .i32 0,.int .i32 0,.int .i32 0,.int .i32 0,.int .i32 0,.int .i32 0,.int .i32 0,.int .i32 0,.int .i32 0,.int .i32 0,.int .i32 0,.int .i32 0,.int .i32 0,.int .i32 0,.int .i32 0,.int .i32 0,.int .i32 0,.int .i32 0]
theorem Tryz.infoSp:(Tryz.prog.info? 179).map (fun i=>(i.zero,i.size))=some (some (.agg DH),66):=Cw
theorem Tryz.underSp:Tryz.prog.underlying 179=some (.array 33 178):=Cw
theorem fO {P:Program}{ops:Array Oper}{rest:List Oper}{o:Oper}{a:Act}{Q:Exit->Act->World->Prop}{w w2:World}{v:Value} (hg:o.guard=none) (hx:(execOp a.eval o).run P w=.ok (.value v) w2) (hk:wpList P ops Q rest (a.put o.dst v) w2):wpList P ops Q (o::rest) a w :=
 wpList_plain hg fun K hK=>Iq
theorem zP {P:Program}{ops:Array Oper}{rest:List Oper}{o:Oper}{a:Act}{Q:Exit->Act->World->Prop}{w w2:World} (hg:o.guard=none) (hx:(execOp a.eval o).run P w=.ok .skip w2) (hk:wpList P ops Q rest (a.put o.dst undef) w2):wpList P ops Q (o::rest) a w :=
 wpList_plain hg fun K hK=>Iq
theorem yR {P:Program}{o:Oper}{ρ:Operand->Value}{w:World}{t:TypeId}{parts:Array (Nat × Operand)}{cells:Array Value} (ho:o.op=.build t parts) (h:P.built t (parts.map fun (i,x)=>(i,ρ x)).toList=some cells):(execOp ρ o).run P w=.ok (.value (.agg cells)) w:=by
 unfold execOp;simp only [ho,Sem.run_bind,Sem.run_pure,run_build w t _ cells h,Result.andThen]
theorem jR {P:Program}{o:Oper}{ρ:Operand->Value}{w w2:World}{t:TypeId}{p x:Operand} (ho:o.op=.store t p x) (h:(Instr.storeAt t (ρ p) (ρ x)).run P w=.ok () w2):(execOp ρ o).run P w=.ok .skip w2:=by
 unfold execOp;simp only [ho,Sem.run_bind,Sem.run_pure,h,Result.andThen]
theorem uO:Calls Tryz.prog 259 #[] w (fun e w'=>e=.returned (.agg UA)/\w'=w.alloc (.cells UA 179)):=by
 obtain⟨hzv,hi⟩:=zero_of_info Tryz.infoSp;have hst:Sem.run Tryz.prog (Instr.storeAt 179 (p8 w.heap.size) (.agg UA)) (w.alloc (.cells DH 179))=.ok () (w.alloc (.cells UA 179)):=run_storeAt_new w _ DH UA Kx Db Cw;have hld:Sem.run Tryz.prog (Instr.loadAt 179 (p8 w.heap.size)) (w.alloc (.cells UA 179))=.ok (.agg UA) (w.alloc (.cells UA 179)):=run_loadAt_new w _ UA 33 _ Tryz.underSp Kx
 go_in
 go_wp2_with (first|(refine fO Db (yR (t:=179) (cells:=UA) rfl Cw) ?_)|(refine zP Db (jR (t:=179) rfl hst) ?_));refine Ca (v:=.agg UA) ?_ rfl ⟨rfl,rfl⟩;have hlv:=run_loadVar_new (P:=Tryz.prog) w _ UA 33 _ Tryz.underSp Kx;simp only [results,Tryz.results259,Act.put,Q',Z',Aa];simp [hlv,asAddr]
theorem NO:∀ {l:List (Int × Int)}{i:Nat}{p:Int × Int},l[i]?=some p->(CP l)[i*2]?=some (.int .i32 p.1)/\(CP l)[i*2+1]?=some (.int .i32 p.2)
 | [],i,p,h=>Dd
 | q::l,0,p,h=>Jc
 | q::l,i+1,p,h=>by
  have:=NO (l:=l) (i:=i) (p:=p) Dp;have e0:(i+1)*2=i*2+1+1:=Cs
  rw [e0];exact this
theorem YQ {w:World}{b i:Nat}{p:Int × Int} (h:w.heap[b]?=some (.cells UA 179 (0,0))) (hp:iD[i]?=some p):w.cell? ⟨b,i*2,none⟩=some (.int .i32 p.1)/\w.cell? ⟨b,i*2+1,none⟩=some (.int .i32 p.2):=by
 obtain⟨h1,h2⟩:=NO hp;have hC:UA=(CP iD).toArray:=rfl;constructor
 ·unfold World.cell?;rw [h,hC];simpa using h1
 ·unfold World.cell?;rw [h,hC];simpa using h2
theorem yQ {r:Int}{i:Nat}{p:Int × Int} (h:iD[i]?=some p) (h1:p.1<=r) (h2:r<=p.2):oB r=true:=by
 unfold oB;rw [List.any_eq_true];exact⟨p,List.mem_of_getElem? h,by simp [h1,h2]⟩
theorem eU {r:Int}{lo:Nat} (h1:∀ i p,i < lo->iD[i]?=some p->p.2 < r) (h2:∀ i p,lo<=i->iD[i]?=some p->r < p.1):oB r=false:=by
 unfold oB;rw [List.any_eq_false];intro p hp;obtain⟨i,hi,rfl⟩:=List.getElem_of_mem hp;have e:iD[i]?=some iD[i]:=O' hi;by_cases hl:i < lo
 ·have:=h1 i _ hl e;simp;omega
 ·have:=h2 i _ Cs e;simp;omega
theorem kM:∀ (i j:Nat) (p q:Int × Int),i < j->iD[i]?=some p->iD[j]?=some q->p.2 < q.1/\q.1<=q.2/\p.1<=p.2:=by
 intro i j p q hij hp hq;have hj:j < 33:=(Al.1 hq).1;have key:∀ j:Fin 33,∀ i:Fin 33,i < j->(iD[i.val]?.getD (0,0)).2 < (iD[j.val]?.getD (0,0)).1/\(iD[j.val]?.getD (0,0)).1<=(iD[j.val]?.getD (0,0)).2/\(iD[i.val]?.getD (0,0)).1<=(iD[i.val]?.getD (0,0)).2:=Ct
 have:=key ⟨j,hj⟩ ⟨i,Cs⟩ hij;simp only [hp,hq,Option.getD_some] at this;exact this
theorem XA (r:Int):Calls Tryz.prog 222 #[.int .i32 r] w (fun e w'=>e=.returned (.bool (oB r))/\Below w.heap.size w w'):=by
 obtain⟨hzv,hi⟩:=zero_of_info Tryz.infoSp;have hst:Sem.run Tryz.prog (storeCells (y8 (w.heap.size+1) 0) UA.toList) ((w.alloc (.cells UA 179)).alloc (.cells DH 179))=.ok () ((w.alloc (.cells UA 179)).alloc (.cells UA 179)):=by
  have h:=run_storeCells_new (P:=Tryz.prog) (w.alloc (.cells UA 179)) 179 DH UA Kx Db Cw;rw [World.size_alloc] at h;exact h
 have hBW:=((N' w.heap.size w).alloc (C' _) (Obj.cells UA 179)).alloc Cu (Obj.cells UA 179);have hblk:=B8 (w.alloc (.cells UA 179)) (.cells UA 179)
 go_in
 go_wp2_with fail;refine uO.mono ?_;rintro e w1 ⟨rfl,rfl⟩;rw [World.size_alloc] at hblk;go_upto_region 2 with fail;generalize ((w.alloc (.cells UA 179)).alloc (.cells UA 179))=w2 at *;generalize w.heap.size+1=b at *;clear hst hzv hi;go_wp2_with fail
 go_loopg [4,5] 33 (fun j v4 v5 wr=>∃ lo hi:Nat,v4=i8 (lo:Int)/\v5=i8 (hi:Int)/\hi=lo+j/\hi<=33/\(∀ i p,i < lo->iD[i]?=some p->p.2 < r)/\(∀ i p,hi<=i->iD[i]?=some p->r < p.1)/\wr=w2)
 case atStart=>exact⟨0,33,rfl,rfl,rfl,C' _,fun _ _ h=>Cs,fun i p h hp=>by have:i < 33:=(Al.1 hp).1;omega,rfl⟩
 case round =>
  obtain⟨lo,hi,rfl,rfl,hj,h33,hlo,hhi,rfl⟩:=hrel;by_cases hlt:lo < hi
  ·have hd:decide (((lo:Nat):Int) < ((hi:Nat):Int))=true:=by simpa using hlt
   obtain⟨mid,hmid⟩:∃ mid,mid=(lo+hi) / 2:=⟨_,rfl⟩;have hw1:IntKind.i64.wrap ((lo:Int)+(hi:Int))=(lo:Int)+(hi:Int):=Cy
   have hqd:((lo:Int)+(hi:Int)).tdiv 2=(mid:Int):=by rw [Int.tdiv_eq_ediv_of_nonneg Cs];omega
   have hw2:IntKind.i64.wrap (mid:Int)=(mid:Int):=Cy
   have hw3:IntKind.i64.wrap ((mid:Int)+1)=(mid:Int)+1:=Cy
   have hm1:(0:Int)<=(mid:Int):=Cs
   have hm2:(mid:Int) < 33:=Cs
   obtain⟨p,hp⟩:∃ p,iD[mid]?=some p:=⟨_,O' (show mid < iD.length by show mid < 33;omega)⟩;obtain⟨c1,c2⟩:=YQ hblk hp;have HL:=hid (Az hlo (Az hhi (Az hj hmid)));have HBW:=hid hBW;clear hlo hhi hj hmid;by_cases h1:r < p.1
   ·have d1:decide (r < p.1)=true:=by simpa using h1
    go_wp2_with fail;obtain⟨hlo,hhi,hj,hmid⟩:=HL.out;go_roundg (mid - lo)
    case measure=>omega
    case rel=>exact⟨lo,mid,rfl,rfl,Cs,Cs,hlo,fun i q hi2 hq=>by
     rcases Nat.eq_or_lt_of_le hi2 with e|e
     ·subst e;rw [hp] at hq;cases hq;exact h1
     ·have:=kM _ _ _ _ e hp hq;omega,rfl⟩
   ·have d1:decide (r < p.1)=false:=by simpa using h1
    by_cases h2:p.2 < r
    ·have d2:decide (p.2 < r)=true:=by simpa using h2
     go_wp2_with fail;obtain⟨hlo,hhi,hj,hmid⟩:=HL.out;go_roundg (hi - (mid+1))
     case measure=>omega
     case rel=>exact⟨mid+1,hi,Cu,rfl,Cs,Cs,fun i q hi2 hq=>by
      rcases Nat.eq_or_lt_of_le (Nat.le_of_lt_succ hi2) with e|e
      ·subst e;rw [hp] at hq;cases hq;exact h2
      ·have:=kM _ _ _ _ e hq hp;omega,hhi,rfl⟩
    ·have d2:decide (p.2 < r)=false:=by simpa using h2
     go_wp2_with fail;go_ret;have ey:=yQ (r:=r) hp Cs Cs;rw [ey];exact⟨rfl,HBW.out⟩
  ·have hd:decide (((lo:Nat):Int) < ((hi:Nat):Int))=false:=by simpa using hlt
   have HJ:=hid hj;clear hj;go_wp2_with fail;go_ret;have en:=eU (r:=r) hlo (fun i q hi2 hq=>hhi i q Kr hq);rw [en];exact⟨rfl,hBW⟩
theorem uC (r:Int):Calls Tryz.prog 218 #[.int .i32 r] w (fun e w'=>e=.returned (.bool (RI r))/\w'=w):=by
 go_in
 go_wp2_with fail
 all_goals go_ret
 all_goals exact⟨by simp [RI, *],rfl⟩
def iJ (l:List UInt8):Bool:=[[98,114,101,97,107],[99,97,115,101],[99,104,97,110],[99,111,110,115,116],[99,111,110,116,105,110,117,101],[100,101,102,97,117,108,116],[100,101,102,101,114],[101,108,115,101],[102,97,108,108,116,104,114,111,117,103,104],[102,111,114],[102,117,110,99],[103,111],[103,111,116,111],[105,102],[105,109,112,111,114,116],[105,110,116,101,114,102,97,99,101],[109,97,112],[112,97,99,107,97,103,101],[114,97,110,103,101],[114,101,116,117,114,110],[115,101,108,101,99,116],[115,116,114,117,99,116],[115,119,105,116,99,104],[116,121,112,101],[118,97,114]].contains l
theorem aH (r:Int):Calls Tryz.prog 260 #[.int .i32 r] w (fun e w'=>e=.returned (.bool (digitB r))/\w'=w):=by
 go_in
 go_wp2_with fail
 go_loopg [6] 5 (fun j v6 wr=>∃ i:Nat,v6=i8 (i:Int)/\i+j=5/\(∀ k d,k < i->([48,1632,2406,3664,65296]:List Int)[k]?=some d->¬ (d<=r/\r<=d+9))/\wr=w)
 case atStart=>exact⟨0,rfl,rfl,fun _ _ h=>Cs,rfl⟩
 case round =>
  obtain⟨i,rfl,hj,hno,rfl⟩:=hrel;have hi:i=0∨i=1∨i=2∨i=3∨i=4∨i=5:=Cs
  have HN:=hid hno;have HJ:=hid hj;clear hno hj;rcases hi with rfl|rfl|rfl|rfl|rfl|rfl
  ·have x0:∀ w:World,(Instr.index 187 (.agg #[.int .i32 48,.int .i32 1632,.int .i32 2406,.int .i32 3664,.int .i32 65296]) (i8 0)).run Tryz.prog w=.ok (.int .i32 48) w:=fun _=>by kernel_rfl
   go_wp2_with fail
   ·exact zet
   all_goals
    have hno:=HN.out;have hj:=HJ.out;go_roundg (4)
    case measure=>omega
    case rel=>exact⟨1,Cu,Cs,fun k d hk hd=>by
     rcases Nat.eq_or_lt_of_le (Nat.le_of_lt_succ hk) with e|e
     ·exact zei
     ·exact hno k d e hd,rfl⟩
  ·have x0:∀ w:World,(Instr.index 187 (.agg #[.int .i32 48,.int .i32 1632,.int .i32 2406,.int .i32 3664,.int .i32 65296]) (i8 1)).run Tryz.prog w=.ok (.int .i32 1632) w:=fun _=>by kernel_rfl
   go_wp2_with fail
   ·exact zet
   all_goals
    have hno:=HN.out;have hj:=HJ.out;go_roundg (3)
    case measure=>omega
    case rel=>exact⟨2,Cu,Cs,fun k d hk hd=>by
     rcases Nat.eq_or_lt_of_le (Nat.le_of_lt_succ hk) with e|e
     ·exact zei
     ·exact hno k d e hd,rfl⟩
  ·have x0:∀ w:World,(Instr.index 187 (.agg #[.int .i32 48,.int .i32 1632,.int .i32 2406,.int .i32 3664,.int .i32 65296]) (i8 2)).run Tryz.prog w=.ok (.int .i32 2406) w:=fun _=>by kernel_rfl
   go_wp2_with fail
   ·exact zet
   all_goals
    have hno:=HN.out;have hj:=HJ.out;go_roundg (2)
    case measure=>omega
    case rel=>exact⟨3,Cu,Cs,fun k d hk hd=>by
     rcases Nat.eq_or_lt_of_le (Nat.le_of_lt_succ hk) with e|e
     ·exact zei
     ·exact hno k d e hd,rfl⟩
  ·have x0:∀ w:World,(Instr.index 187 (.agg #[.int .i32 48,.int .i32 1632,.int .i32 2406,.int .i32 3664,.int .i32 65296]) (i8 3)).run Tryz.prog w=.ok (.int .i32 3664) w:=fun _=>by kernel_rfl
   go_wp2_with fail
   ·exact zet
   all_goals
    have hno:=HN.out;have hj:=HJ.out;go_roundg (1)
    case measure=>omega
    case rel=>exact⟨4,Cu,Cs,fun k d hk hd=>by
     rcases Nat.eq_or_lt_of_le (Nat.le_of_lt_succ hk) with e|e
     ·exact zei
     ·exact hno k d e hd,rfl⟩
  ·have x0:∀ w:World,(Instr.index 187 (.agg #[.int .i32 48,.int .i32 1632,.int .i32 2406,.int .i32 3664,.int .i32 65296]) (i8 4)).run Tryz.prog w=.ok (.int .i32 65296) w:=fun _=>by kernel_rfl
   go_wp2_with fail
   ·exact zet
   all_goals
    have hno:=HN.out;have hj:=HJ.out;go_roundg (0)
    case measure=>omega
    case rel=>exact⟨5,Cu,Cs,fun k d hk hd=>by
     rcases Nat.eq_or_lt_of_le (Nat.le_of_lt_succ hk) with e|e
     ·exact zei
     ·exact hno k d e hd,rfl⟩
  ·go_wp2_with fail;go_ret;have hno:=HN.out;have h0:=hno 0 48 Cs rfl;have h1:=hno 1 1632 Cs rfl;have h2:=hno 2 2406 Cs rfl;have h3:=hno 3 3664 Cs rfl;have h4:=hno 4 65296 Cs rfl;have e:digitB r=false:=by simp [digitB];omega
   rw [e];exact zbg
theorem PM (l:List UInt8):Calls Tryz.prog 261 #[.string ⟨l.toArray⟩] w (fun e w'=>e=.returned (.bool (iJ l))/\w'=w):=by
 go_in
 go_wp2_with fail
 all_goals first|(rename_i h1 h2;exact absurd (h1.symm.trans h2) Ct)|go_ret
 all_goals exact⟨by simp only [iJ,List.contains_cons,List.contains_nil, *,Bool.false_or,Bool.true_or,Bool.or_true];rfl,rfl⟩
end
namespace Num
open Go.RowKit
def val (n:Int):Int :=
 if 48<=n/\n<=57 then n - 48 else if 97<=n/\n<=102 then n - 97+10 else if 65<=n/\n<=70 then n - 65+10 else 99
theorem dE {k:IntKind}{a b:Int} (h:a=b):Ending.returned (.int k a)=.returned (.int k b):=by rw [h]
theorem nT (n:Int) (h:0<=n) (h2:n<=255) (w:World) :
  Calls Tryz.prog 263 #[.int .u8 n] w fun e w'=>e=.returned (i8 (val n))/\w=w':=by
 go_in
 go_wp2
 all_goals (go_ret;exact⟨dE (by unfold val;omega),rfl⟩)
theorem PI {P:Program}{f:FuncId}{args:Array Value}{w:World}{n:Nat}{v:Value}
  (h:Calls P f args (w.drewN n) fun e w'=>e=.returned v/\w.drewN n=w'):Calls P f args (w.drewN n) fun e w''=>e=.returned v/\∃ m,w''=w.drewN m :=
 h.mono fun _ _ ⟨he,hm⟩=>⟨he,n,hm.symm⟩
theorem tE (b:UInt8) (w:World):Calls Tryz.prog 263 #[.int .u8 b.toNat] w fun e w'=>e=.returned (i8 (val b.toNat))/\w=w' :=
 nT _ Cs (by have:=b.toNat_lt;omega) w
theorem sT (s:ByteArray) (k:Nat) (base:Int) (pn ps pb:Addr) (w:World) (hk:¬ k < s.size) (hs:s.size<=maxLen)
  (hn:w.cell? pn=some (i8 k)) (hps:w.cell? ps=some (.string s)) (hpb:w.cell? pb=some (i8 base)) :
  Calls Tryz.prog 289 #[.pointer (some pn),.pointer (some ps),.pointer (some pb)] w fun e w'=>e=.returned (.bool false)/\∃ n,w'=w.drewN n:=by
 have hd:decide (k < s.size)=false:=by simpa using hk
 go_in
 go_wp2_with fail;go_quiet (fail);go_wp2_with fail;go_ret;exact⟨rfl,nq,rfl⟩
theorem tP (s:ByteArray) (k:Nat) (base:Int) (pn ps pb:Addr) (w:World) (hk:k < s.size) (hs:s.size<=maxLen)
  (hn:w.cell? pn=some (i8 k)) (hps:w.cell? ps=some (.string s)) (hpb:w.cell? pb=some (i8 base)) :
  Calls Tryz.prog 289 #[.pointer (some pn),.pointer (some ps),.pointer (some pb)] w fun e w'=>e=.returned (.bool (decide (val s[k].toNat < base)))/\∃ n,w'=w.drewN n:=by
 have hd:decide (k < s.size)=true:=by simpa using hk
 go_in
 go_wp2_with fail;go_quiet (exact Cr);go_wp2_with fail;go_ret;exact⟨rfl,nq,rfl⟩
def dg (b:Int) (c:UInt8):Bool:=decide (val c.toNat < b)
def QG (b:Int):List UInt8->Nat
 | []=>0
 | u::r=>if dg b u then 1+QG b r else if u==95 then (match r with|d::r'=>if dg b d then 2+QG b r' else 0|[]=>0) else 0
def aC (b:Int):List UInt8->Nat
 | []=>0
 | c::r=>if dg b c then 1+QG b r else 0
def wI (w:World) (a:Addr):Nat:=match w.cell? a with|some (.int _ n)=>n.toNat|_=>0
theorem lF (s:ByteArray) (k:Nat) (h:k < s.size):s.data.toList.drop k=s[k]::s.data.toList.drop (k+1):=by
 rw [Aq Dp];rfl
theorem GX (b:Int) (h:b<=16):dg b 95=false:=by
 have:val 95=99:=Ct
 unfold dg;simp;show b<=val 95;omega
theorem wY (b:Int) (c:UInt8) (r:List UInt8) (h:dg b c=false):aC b (c::r)=0:=by simp [aC,h]
theorem pW (b:Int) (c:UInt8) (r:List UInt8) (h:dg b c=true):aC b (c::r)=1+QG b r:=by simp [aC,h]
theorem ZL (b:Int) (r:List UInt8) (h:∀ u d r',r=u::d::r'->u=95->dg b d=false) (hb:b<=16):QG b r=aC b r:=by
 match r with
 | []=>rfl
 | [u]=>by_cases e:u=95 <;> simp [QG,aC,e]
 | u::d::r' =>
  by_cases e:u=95
  ·subst e;simp [QG,aC,h 95 d r' rfl rfl,GX b hb]
  ·simp [QG,aC,e]
theorem AX (b:Int) (d:UInt8) (r':List UInt8) (h:dg b d=true) (hb:b<=16):QG b (95::d::r')=1+aC b (d::r'):=by
 simp [QG,aC,h,GX b hb];omega
structure LG (B:Nat) (s:ByteArray) (base k:Int) (w:World):Prop where
 cs:w.heap[B]?=some (.cells #[.string s] 9 (0,0))
 cb:w.heap[B+1]?=some (.cells #[i8 base] 3 (0,0))
 cn:w.heap[B+1+1]?=some (.cells #[i8 k] 3 (0,0))
theorem LG.drewN {B:Nat}{s:ByteArray}{base k:Int}{w:World} (h:LG B s base k w) (n:Nat):LG B s base k (w.drewN n):=⟨h.cs,h.cb,h.cn⟩
theorem LG.set {B:Nat}{s:ByteArray}{base k:Int}{w:World} (h:LG B s base k w) (k':Int):LG B s base k' (w.setCell ⟨B+1+1,0,none⟩ (i8 k')) :=
 ⟨by rw [Ah _ _ _ _ Cv];exact h.cs,by rw [Ah _ _ _ _ Cu];exact h.cb,one_setCell h.cn⟩
theorem LG.num {B:Nat}{s:ByteArray}{base:Int}{k:Nat}{w:World} (h:LG B s base k w):wI w ⟨B+1+1,0,none⟩=k:=by
 unfold wI;rw [cell_of_one h.cn];simp
theorem LG.num' {B:Nat}{s:ByteArray}{base k:Int}{w:World} (h:LG B s base k w):wI w ⟨B+1+1,0,none⟩=k.toNat:=by
 unfold wI;rw [cell_of_one h.cn]
theorem kL {B:Nat}{a w:World} (h:Below B a w) (n:Nat):Below B a (w.drewN n):=⟨h.os,h.tape,h.output,h.size,h.block⟩
theorem lN {w:World}{o:Obj}{k:Nat} (h:w.heap.size=k):(w.alloc o).heap[k]?=some o:=by subst h;exact B8 _ _
def Big:Nat:=1125899906842624
theorem aS (s:ByteArray) (base:Int) (w:World) (hs:s.size<=1125899906842624) (hbase:base<=16) :
  Calls Tryz.prog 279 #[.string s,i8 base] w fun e w'=>e=.returned (i8 (aC base s.data.toList))/\Below w.heap.size w w':=by
 have hmx:s.size<=maxLen:=Da
 have hmf:∀ (fn:Fn) (first cap:Array Value) (w:World),(Instr.makeFunc fn first cap).run Tryz.prog w=.ok (.func fn first cap) w:=fun _ _ _ _=>rfl
 go_in
 go_wp2_with fail
 go_loopw [8] (fun _ wr=>∃ k:Nat,k<=s.size/\LG w.heap.size s base k wr/\k+aC base (s.data.toList.drop k)=aC base s.data.toList/\Below w.heap.size w wr)
  (fun _ wr=>s.size - wI wr ⟨w.heap.size+1+1,0,none⟩)
 case atStart =>
  refine⟨0,Cs,⟨?_,?_,?_⟩,Cu,(((N' _ _).alloc (C' _) _).alloc Cu _).alloc Cv _⟩
  ·exact (Af _ _ _ Cv).trans ((Af _ _ _ Cu).trans (B8 _ _))
  ·exact (Af _ _ _ Cu).trans (lN Cu)
  ·exact lN Cu
 case round =>
  obtain⟨k,hk,hr,hrow,hb⟩:=hrel;have h0:=cell_of_one hr.cs;have h1:=cell_of_one hr.cb;have h2:=cell_of_one hr.cn;have f2:=free_of_one hr.cn;have Hr:=hid hrow;have Hn:=hid hr.num;clear hrow;by_cases hlt:k < s.size
  ·by_cases hd:val s[k].toNat < base
   ·have hdd:decide (val s[k].toNat < base)=true:=by simpa using hd
    have Hs:=hid (pW base s[k] (s.data.toList.drop (k+1)) hdd);have Hdr:=hid (lF s k hlt);go_wp2_with (go_at_call 289;refine (tP s k base _ _ _ _ hlt hmx h2 h0 h1).mono ?_;rintro e w' ⟨rfl,nq,rfl⟩);have hr2:=(hr.drewN nq).set (k+1);have hb2:=(kL hb nq).setCell (p:=⟨w.heap.size+1+1,0,none⟩) Ih (i8 (k+1));generalize (wr.drewN nq).setCell ⟨w.heap.size+1+1,0,none⟩ (i8 (k+1))=wx at *;clear h0 h1 h2 f2 hr hb;have h0:=cell_of_one hr2.cs;have h1:=cell_of_one hr2.cb;have h2:=cell_of_one hr2.cn;have f2:=free_of_one hr2.cn;have hnum:wI wx ⟨w.heap.size+1+1,0,none⟩=k+1:=LG.num (k:=k+1) hr2;have Hnum:=hid hnum;clear hnum;have w1:IntKind.i64.wrap ((k:Int)+1)=k+1:=IntWalk.i64_in _ Cs;have w2:IntKind.i64.wrap ((k:Int)+1+1)=k+1+1:=IntWalk.i64_in _ Cs;by_cases h22:k+2 < s.size
    ·have t1:decide ((k:Int)+1+1 < s.size)=true:=by simp;omega
     have i1:((k:Int)+1).toNat=k+1:=Cs
     have i2:((k:Int)+1+1).toNat=k+2:=Cs
     have b0:0<=(k:Int)+1:=Cs
     have b1:(k:Int)+1 < s.size:=Cs
     have c0:0<=(k:Int)+1+1:=Cs
     have c1:(k:Int)+1+1 < s.size:=Cs
     have Hdr2:=hid (lF s (k+1) Cs);have Hdr3:=hid (lF s (k+2) Cs);by_cases hu:s[k+1]=95
     ·have hu':(((s[k+1].toNat:Nat):Int)==95)=true:=by rw [hu];rfl
      by_cases hd2:val s[k+2].toNat < base
      ·have hd2':decide (val s[k+2].toNat < base)=true:=by simpa using hd2
       go_quiet (exact Cr);go_wp2_with fail;have Hfin:Hid ((k+2:Nat)+aC base (s.data.toList.drop (k+2))=aC base s.data.toList):=by
        unfold Hid;rw [<- Hr.out,Hdr.out,Hs.out,Hdr2.out,hu,Hdr3.out,AX _ _ _ hd2' hbase];omega
       go_roundw
       case rel=>exact⟨k+2,Cs,(hr2.drewN nq).set _,Hfin.out,(kL hb2 nq).setCell Ih _⟩
       case measure=>rw [Hn.out];show s.size - wI _ _ < _;rw [LG.num' ((hr2.drewN nq).set ((k:Int)+1+1))];omega
      ·have hd2':decide (val s[k+2].toNat < base)=false:=by simpa using hd2
       go_quiet (exact Cr);go_wp2_with fail;have Hfin:Hid ((k+1:Nat)+aC base (s.data.toList.drop (k+1))=aC base s.data.toList):=by
        unfold Hid;rw [<- Hr.out,Hdr.out,Hs.out,ZL]
        ·omega
        ·intro u d r' e _;rw [Hdr2.out,Hdr3.out] at e;injection e with _ e;injection e with e _;rw [<- e];exact hd2'
        ·exact hbase
       exact zbf
     ·have hu':(((s[k+1].toNat:Nat):Int)==95)=false:=by
       rw [Bi];intro e;exact hu (Ay.1 (by show _=95;omega))
      go_quiet (fail);go_wp2_with fail;have Hfin:Hid ((k+1:Nat)+aC base (s.data.toList.drop (k+1))=aC base s.data.toList):=by
       unfold Hid;rw [<- Hr.out,Hdr.out,Hs.out,ZL]
       ·omega
       ·intro u d r' e e2;rw [Hdr2.out] at e;injection e with e _;exact absurd (e.trans e2) hu
       ·exact hbase
      exact zbf
    ·have t1:decide ((k:Int)+1+1 < s.size)=false:=by simp;omega
     have Hfin:Hid ((k+1:Nat)+aC base (s.data.toList.drop (k+1))=aC base s.data.toList):=by
      unfold Hid;rw [<- Hr.out,Hdr.out,Hs.out,ZL]
      ·omega
      ·intro u d r' e;have:=congrArg List.length e;simp at this;omega
      ·exact hbase
     go_quiet (fail);go_wp2_with fail;exact zbf
   ·have hdd:decide (val s[k].toNat < base)=false:=by simpa using hd
    go_wp2_with (go_at_call 289;refine (tP s k base _ _ _ _ hlt hmx h2 h0 h1).mono ?_;rintro e w' ⟨rfl,nq,rfl⟩);go_ret;refine⟨dE ?_,hb.os,hb.tape,hb.output,hb.size,hb.block⟩;rw [<- Hr.out,lF s k hlt,wY _ _ _ hdd];simp
  ·go_wp2_with (go_at_call 289;refine (sT s k base _ _ _ _ hlt hmx h2 h0 h1).mono ?_;rintro e w' ⟨rfl,nq,rfl⟩);go_ret;refine⟨dE ?_,hb.os,hb.tape,hb.output,hb.size,hb.block⟩;rw [<- Hr.out,List.drop_eq_nil_of_le Cv];simp [aC]
end Num
namespace Num
open Go.RowKit
theorem TG {a b:Value} (h:a=b):Ending.returned a=.returned b:=by rw [h]
theorem mI (l p:List UInt8):(Lib.trimPrefix l p).length<=l.length:=by
 unfold Lib.trimPrefix;split <;> simp
theorem VK (l:List UInt8):(ByteArray.mk l.toArray).size=l.length:=Fe
theorem BU (s:ByteArray) (p:List UInt8) (N:Nat) (h:s.size<=N):(ByteArray.mk (Lib.trimPrefix s.data.toList p).toArray).size<=N:=by
 rw [VK];have:=mI s.data.toList p;rw [<- Lib.size_eq] at this;omega
def dF (b:Int) (l:List UInt8):Int :=
 if Lib.trimPrefix l [95]≠[]/\aC b (Lib.trimPrefix l [95])=(Lib.trimPrefix l [95]).length then 3 else 0
theorem UT (s:ByteArray) (base:Int) (w:World) (hs:s.size<=1125899906842624) (hbase:base<=16) :
  Calls Tryz.prog 285 #[.string s,i8 base] w fun e w'=>e=.returned (.int .u8 (dF base s.data.toList))/\Below w.heap.size w w':=by
 go_in
 go_wp2_with (first|(go_at_call 295;refine (Tryz.strings_TrimPrefix _ _ _).mono ?_;rintro e w' ⟨rfl,hw⟩;obtain rfl:=hw.symm)|(go_at_call 279;refine (aS _ _ _ (BU _ _ _ hs) hbase).mono ?_;rintro e w1 ⟨rfl,hb⟩))
 all_goals go_ret
 all_goals (refine⟨dE ?_,by first|assumption|exact N' _ _⟩;simp_all [dF] <;> omega)
@[simp] theorem get_mk (l:List UInt8) (i:Nat) (h:i < (ByteArray.mk l.toArray).size):(ByteArray.mk l.toArray)[i]'h=l[i]?.getD 0:=by
 have h':i < l.length:=Ey
 rw [O' h'];rfl
attribute [simp] ByteArray.extract_mk
theorem dA {w w1 w2:World} (h:Below w.heap.size w w1) (k:Below w1.heap.size w1 w2):Below w.heap.size w w2:=h.trans (k.mono h.size)
theorem pO (b:Int):∀ l,QG b l<=l.length
 | []=>by simp [QG]
 | u::r=>by
  have h1:=pO b r;unfold QG;split
  ·simp;omega
  ·split
   ·split
    ·rename_i d r';have h2:=pO b r';split <;> simp;omega
    ·simp
   ·simp
theorem qU (b:Int) (l:List UInt8):aC b l<=l.length:=by
 cases l with
 | nil=>simp [aC]
 | cons c r=>have:=pO b r;unfold aC;simp only [Ae];split <;> omega
theorem jS (b:Int):aC b []=0:=rfl
theorem cN (l:List UInt8) (base:Int) (w:World) (hs:l.length<=1125899906842624) (hbase:base<=16) :
  Calls Tryz.prog 279 #[.string ⟨l.toArray⟩,i8 base] w fun e w'=>e=.returned (i8 (aC base l))/\aC base l<=l.length/\Below w.heap.size w w':=by
 have:=aS ⟨l.toArray⟩ base w (by rw [VK];exact hs) hbase;exact this.mono fun e w' ⟨h,h2⟩=>⟨Dp,qU _ _,h2⟩
theorem ixb (l:List UInt8) (c:UInt8) (w:World) :
  Calls Tryz.prog 221 #[.string ⟨l.toArray⟩,.int .u8 c.toNat] w fun e w'=>e=.returned (i8 (Lib.indexByte l c))/\w=w':=by
 have:=(Tryz.strings_IndexByte ⟨l.toArray⟩ c.toNat w).mono (R':=fun e w'=>e=.returned (i8 (Lib.indexByte l c))/\w=w') fun e w' ⟨h,h2⟩=>⟨Dp,h2.symm⟩
 exact this
def ES:List UInt8->Nat
 | []=>1
 | d::_=>if (d.toNat:Int)=43∨(d.toNat:Int)=45 then 2 else 1
def QF (ls l:List UInt8):Nat :=
 match l with
 | []=>0
 | c::r=>if Lib.indexByte ls c < 0 then 0 else
   let n:=ES r
   if 0 < aC 10 (l.drop n) then n+aC 10 (l.drop n) else 0
theorem RT (l ls:List UInt8) (w:World) (hs:l.length<=1125899906842624) :
  Calls Tryz.prog 296 #[.string ⟨l.toArray⟩,.string ⟨ls.toArray⟩] w fun e w'=>e=.returned (i8 (QF ls l))/\Below w.heap.size w w':=by
 have hb:=N' w.heap.size w
 match l,hs with
 | [],hs =>
  go_in
  exact zbr
 | [c],hs =>
  simp only [Ae,Am] at hs
  go_in
  go_wp2_with (first|(go_at_call 221;refine (ixb _ _ _).mono ?_;rintro e w' ⟨rfl,rfl⟩)|(go_at_call 279;refine (cN _ _ _ Cu Cs).mono ?_;rintro e w1 ⟨rfl,hle,hn⟩;(try simp only [Ae] at hle);replace hb:=dA hb hn))
  all_goals go_ret
  all_goals (refine⟨dE ?_,hb⟩;simp only [QF,ES,List.drop_succ_cons,List.drop_zero,jS] at *;(repeat' split) <;> first|omega|(simp_all <;> omega))
 | c::d::r,hs =>
  simp only [Ae] at hs
  go_in
  go_wp2_with (first|(go_at_call 221;refine (ixb _ _ _).mono ?_;rintro e w' ⟨rfl,rfl⟩)|(go_at_call 279;refine (cN _ _ _ Cz Cs).mono ?_;rintro e w1 ⟨rfl,hle,hn⟩;(try simp only [Ae] at hle);replace hb:=dA hb hn))
  all_goals go_ret
  all_goals (refine⟨dE ?_,hb⟩;simp only [QF,ES,List.drop_succ_cons,List.drop_zero,jS] at *;(repeat' split) <;> first|omega|(simp_all <;> omega))
@[simp] theorem take_drop_len (l:List UInt8) (k:Nat):List.take (l.length - k) (List.drop k l)=l.drop k:=Au Cu
@[simp] theorem take_tail_len (l:List UInt8):List.take (l.length - 1) l.tail=l.tail:=Au Cu
abbrev bat (l:List UInt8) (n:Nat):Int:=((l[n]?.getD 0).toNat:Int)
theorem QK (l:List UInt8) (base:Int) (w:World) (hs:l.length<=1125899906842624) (hbase:base<=16) :
  Calls Tryz.prog 285 #[.string ⟨l.toArray⟩,i8 base] w fun e w'=>e=.returned (.int .u8 (dF base l))/\Below w.heap.size w w':=by
 have:=UT ⟨l.toArray⟩ base w (by rw [VK];exact hs) hbase;simpa using this
theorem zU (ls l:List UInt8):QF ls l<=l.length:=by
 unfold QF;split
 ·simp
 ·rename_i c r;have:=qU 10 ((c::r).drop (ES r));simp only [Ab] at this;split
  ·simp
  ·simp only [];split <;> omega
theorem bO (l ls:List UInt8) (w:World) (hs:l.length<=1125899906842624) :
  Calls Tryz.prog 296 #[.string ⟨l.toArray⟩,.string ⟨ls.toArray⟩] w fun e w'=>e=.returned (i8 (QF ls l))/\QF ls l<=l.length/\Below w.heap.size w w' :=
 (RT l ls w hs).mono fun e w' ⟨h,h2⟩=>⟨h,zU _ _,h2⟩
def WW (ls l:List UInt8) (n k:Nat):Int :=
 if 0 < n+k/\0 < k+QF ls (l.drop (n+k))/\n+k+QF ls (l.drop (n+k))=l.length then 4 else 0
def tO (l:List UInt8):Int :=
 if aC 10 l=l.length/\0 < aC 10 l then (if bat l 0≠48∨aC 10 l=1 then 3 else dF 8 l.tail)
 else if aC 10 l < l.length/\bat l (aC 10 l)=46 then
  (if aC 10 l+aC 10 (l.drop (aC 10 l+1))=0 then 0 else WW [101,69] l (aC 10 l) (aC 10 (l.drop (aC 10 l+1))+1))
 else WW [101,69] l (aC 10 l) 0
theorem xO (l:List UInt8) (w:World) (hs:l.length<=1125899906842624) :
  Calls Tryz.prog 287 #[.string ⟨l.toArray⟩] w fun e w'=>e=.returned (.int .u8 (tO l))/\Below w.heap.size w w':=by
 have hb:=N' w.heap.size w;by_cases hl:l=[]
 ·subst hl
  go_in
  go_wp2_with (first
   | (go_at_call 296;refine (bO [] _ _ Cu).mono ?_;rintro e w1 ⟨rfl,hle,hn⟩;replace hb:=dA hb hn)
   | (go_at_call 279;refine (cN [] _ _ Cu Cs).mono ?_;rintro e w1 ⟨rfl,hle,hn⟩;replace hb:=dA hb hn))
  all_goals go_ret
  all_goals exact⟨rfl,hb⟩
 have h0:0 < l.length:=List.length_pos_iff.2 hl
 go_in
 go_wp2_with (first
  | (go_at_call 285;refine (QK _ _ _ Cz Cs).mono ?_;rintro e w1 ⟨rfl,hn⟩;replace hb:=dA hb hn)
  | (go_at_call 296;refine (bO _ _ _ Cz).mono ?_;rintro e w1 ⟨rfl,hle,hn⟩;(try simp only [Ae,Ab] at hle);replace hb:=dA hb hn)
  | (go_at_call 279;refine (cN _ _ _ Cz Cs).mono ?_;rintro e w1 ⟨rfl,hle,hn⟩;(try simp only [Ae,Ab] at hle);replace hb:=dA hb hn))
 all_goals go_ret
 all_goals refine⟨dE ?_,hb⟩
 all_goals simp only [tO,WW,bat,Nat.add_zero,Nat.zero_add,Bh,Bi] at *
 all_goals clear hb hn
 all_goals (repeat' split)
 all_goals first|omega|(simp_all;done)|(simp_all;omega)
theorem mY (l p:List UInt8) (w:World) :
  Calls Tryz.prog 295 #[.string ⟨l.toArray⟩,.string ⟨p.toArray⟩] w fun e w'=>e=.returned (.string ⟨(Lib.trimPrefix l p).toArray⟩)/\(Lib.trimPrefix l p).length<=l.length/\w=w' :=
 (Tryz.strings_TrimPrefix ⟨l.toArray⟩ ⟨p.toArray⟩ w).mono fun e w' ⟨h,h2⟩=>⟨Dp,mI _ _,h2.symm⟩
theorem gN (l p:List UInt8) (w:World) :
  Calls Tryz.prog 220 #[.string ⟨l.toArray⟩,.string ⟨p.toArray⟩] w fun e w'=>e=.returned (.bool (Lib.hasPrefix l p))/\w=w' :=
 (Tryz.strings_HasPrefix ⟨l.toArray⟩ ⟨p.toArray⟩ w).mono fun e w' ⟨h,h2⟩=>⟨Dp,h2.symm⟩
theorem MX (l p:List UInt8) (w:World) (hs:l.length<=1125899906842624) :
  Calls Tryz.prog 278 #[.string ⟨l.toArray⟩,.string ⟨p.toArray⟩] w fun e w'=>e=.returned (.bool (Lib.hasSuffix l p))/\w=w' :=
 (Tryz.strings_HasSuffix ⟨l.toArray⟩ ⟨p.toArray⟩ w (by rw [VK];omega)).mono fun e w' ⟨h,h2⟩=>⟨Dp,h2.symm⟩
def yW (t:List UInt8) (n k:Nat):Int :=
 if 0 < QF [112,80] (t.drop (n+k))/\n+k+QF [112,80] (t.drop (n+k))=t.length then 4 else 0
def zY (u:Bool) (t:List UInt8):Int :=
 if aC 16 t=0/\u=true then 0
 else if aC 16 t < t.length/\bat t (aC 16 t)=46 then
  (if aC 16 t+aC 16 (t.drop (aC 16 t+1))=0 then 0 else yW t (aC 16 t) (aC 16 (t.drop (aC 16 t+1))+1))
 else if aC 16 t=0 then 0 else yW t (aC 16 t) 0
def SP (l:List UInt8):Int:=if dF 16 l≠0 then 3 else zY (Lib.hasPrefix l [95]) (Lib.trimPrefix l [95])
theorem SW (l:List UInt8) (w:World) (hs:l.length<=1125899906842624) :
  Calls Tryz.prog 286 #[.string ⟨l.toArray⟩] w fun e w'=>e=.returned (.int .u8 (SP l))/\Below w.heap.size w w':=by
 have hb:=N' w.heap.size w;by_cases h3:dF 16 l=0
 ·have h3':(dF 16 l != 0)=false:=by simp [h3]
  have H3:=hid h3;clear h3
  go_in
  go_wp2_with (first
   | (go_at_call 285;refine (QK _ _ _ Cz Cs).mono ?_;rintro e w1 ⟨rfl,hn⟩;replace hb:=dA hb hn)
   | (go_at_call 295;refine (mY _ _ _).mono ?_;rintro e w1 ⟨rfl,hle,rfl⟩)
   | (go_at_call 220;refine (gN _ _ _).mono ?_;rintro e w1 ⟨rfl,rfl⟩)
   | (go_at_call 296;refine (bO _ _ _ Cz).mono ?_;rintro e w1 ⟨rfl,hle,hn⟩;(try simp only [Ae,Ab,List.length_tail] at hle);replace hb:=dA hb hn)
   | (go_at_call 279;refine (cN _ _ _ Cz Cs).mono ?_;rintro e w1 ⟨rfl,hle,hn⟩;(try simp only [Ae,Ab,List.length_tail] at hle);replace hb:=dA hb hn))
  all_goals go_ret
  all_goals refine⟨dE ?_,hb⟩
  all_goals (have h3:=H3.out;clear H3 hb hn)
  all_goals simp only [SP,h3,ne_eq,not_true_eq_false,Bf]
  all_goals (generalize Lib.trimPrefix l [95]=t at *;generalize Lib.hasPrefix l [95]=u at *)
  all_goals (simp only [zY,yW,bat,Nat.add_zero,Nat.zero_add,Bh,Bi] at *)
  all_goals (repeat' split)
  all_goals first|omega|(simp_all;done)|(simp_all;omega)
 ·have h3':(dF 16 l != 0)=true:=by simp [h3]
  have H3:=hid h3;clear h3
  go_in
  go_wp2_with (first
   | (go_at_call 285;refine (QK _ _ _ Cz Cs).mono ?_;rintro e w1 ⟨rfl,hn⟩;replace hb:=dA hb hn))
  go_ret;exact⟨dE (by unfold SP;rw [Bb H3.out]),hb⟩
end Num
namespace Num
open Go.RowKit
def CJ (l:List UInt8):Int :=
  match l with
  | z::c::r=>if (z.toNat:Int)=48 then
      (if (c.toNat:Int)=98∨(c.toNat:Int)=66 then dF 2 r
       else if (c.toNat:Int)=111∨(c.toNat:Int)=79 then dF 8 r
       else if (c.toNat:Int)=120∨(c.toNat:Int)=88 then SP r else tO l) else tO l
  | _=>tO l
theorem cP (l:List UInt8) (w:World) (hs:l.length<=1125899906842624) :
    Calls Tryz.prog 277 #[.string ⟨l.toArray⟩] w fun e w'=>e=.returned (.int .u8 (CJ l))/\Below w.heap.size w w':=by
  match l,hs with
  | [],hs =>
    go_in
    go_wp2_with (first
      | (go_at_call 287;refine (xO [] _ Cu).mono ?_;rintro e w1 ⟨rfl,hb⟩))
    exact zfd
  | [z],hs =>
    go_in
    go_wp2_with (first
      | (go_at_call 287;refine (xO [z] _ Cu).mono ?_;rintro e w1 ⟨rfl,hb⟩))
    exact zfd
  | z::c::r,hs =>
    simp only [Ae] at hs
    go_in
    go_wp2_with (first
      | (go_at_call 287;refine (xO (z::c::r) _ Cz).mono ?_;rintro e w1 ⟨rfl,hb⟩)
      | (go_at_call 286;refine (SW _ _ Cz).mono ?_;rintro e w1 ⟨rfl,hb⟩)
      | (go_at_call 285;refine (QK _ _ _ Cz Cs).mono ?_;rintro e w1 ⟨rfl,hb⟩))
    all_goals go_ret
    all_goals refine⟨dE ?_,hb⟩
    all_goals clear hb
    all_goals simp only [CJ,Bh,Bi] at *
    all_goals (repeat' split)
    all_goals first|rfl|omega|(simp_all;done)|(simp_all;omega)
def yE (l:List UInt8):Int :=
  if CJ l≠0 then CJ l
  else if Lib.hasSuffix l [105]=true then
    (if CJ (l.take (l.length - 1))≠0∨(l.take (l.length - 1)≠[]/\aC 10 (l.take (l.length - 1))=(l.take (l.length - 1)).length) then 5 else 0)
  else 0
theorem sW (l:List UInt8) (c:UInt8) (h:Lib.hasSuffix l [c]=true):1<=l.length:=by
  cases l with
  | nil=>simp [Lib.hasSuffix,List.isSuffixOf] at h
  | cons _ _=>simp
theorem ZD (l:List UInt8) (w:World) (hs:l.length<=1125899906842624) :
    Calls Tryz.prog 264 #[.string ⟨l.toArray⟩] w fun e w'=>e=.returned (.int .u8 (yE l))/\Below w.heap.size w w':=by
  have hb:=N' w.heap.size w;by_cases hsuf:Lib.hasSuffix l [105]=true
  · have h1:=sW l 105 hsuf
    go_in
    go_wp2_with (first
      | (go_at_call 277;refine (cP _ _ Cz).mono ?_;rintro e w1 ⟨rfl,hn⟩;replace hb:=dA hb hn)
      | (go_at_call 278;refine (MX _ _ _ hs).mono ?_;rintro e w1 ⟨rfl,rfl⟩)
      | (go_at_call 279;refine (cN _ _ _ Cz Cs).mono ?_;rintro e w1 ⟨rfl,hle,hn⟩;replace hb:=dA hb hn))
    all_goals go_ret
    all_goals refine⟨dE ?_,hb⟩
    all_goals clear hb hn
    all_goals simp only [yE,Bh,bne_iff_ne,ne_eq] at *
    all_goals (repeat' split)
    all_goals first|rfl|omega|(simp_all;done)|(simp_all;omega)
  · have hsuf':Lib.hasSuffix l [105]=false:=by simpa using hsuf
    clear hsuf
    go_in
    go_wp2_with (first
      | (go_at_call 277;refine (cP _ _ Cz).mono ?_;rintro e w1 ⟨rfl,hn⟩;replace hb:=dA hb hn)
      | (go_at_call 278;refine (MX _ _ _ hs).mono ?_;rintro e w1 ⟨rfl,rfl⟩))
    all_goals go_ret
    all_goals (refine⟨dE ?_,hb⟩;simp_all [yE])
def eE (l:List UInt8) (k:Int):Bool :=
  decide (0<=k/\k < l.length)&&(decide (val (bat l k.toNat) < 10)||(decide (bat l k.toNat=46)&&decide (k+1 < l.length)&&decide (val (bat l (k.toNat+1)) < 10)))
theorem fH (l:List UInt8) (at':Int) (w:World) (hs:l.length<=1125899906842624) :
    Calls Tryz.prog 262 #[.string ⟨l.toArray⟩,i8 at'] w fun e w'=>e=.returned (.bool (eE l at'))/\w=w':=by
  by_cases h0:0<=at'
  · obtain⟨k,rfl⟩:=Ad h0
    by_cases hk:k < l.length
    · go_in
      go_wp2_with (first|(go_at_call 263;refine (tE _ _).mono ?_;rintro e w1 ⟨rfl,rfl⟩))
      all_goals go_ret
      all_goals refine⟨TG (congrArg Value.bool ?_),rfl⟩
      all_goals simp only [eE,bat]
      all_goals first|(simp_all;done)|(simp_all;omega)|go_show
    · have hk':l.length<=k:=by omega
      go_in
      go_wp2_with fail
      all_goals go_ret
      all_goals exact⟨by simp [eE];omega,rfl⟩
  · go_in
    go_wp2_with fail
    all_goals go_ret
    all_goals exact⟨by simp [eE];omega,rfl⟩
def alB (c:Int):Bool:=decide (c=95∨c=46∨val c < 10∨(97<=c/\c<=122)∨(65<=c/\c<=90))
def oJ (cont:Nat->Bool):Nat->Nat->Nat
  | 0,tx=>tx
  | f+1,tx=>if cont tx then oJ cont f (tx+1) else tx
def bM (l:List UInt8) (k:Nat):Bool:=Lib.hasPrefix (l.drop k) [48,120]||Lib.hasPrefix (l.drop k) [48,88]
def GL (c:Int):Int:=bits BinOp.or IntKind.u8 c 32
def mE (l:List UInt8) (hex:Bool) (k tx:Nat):Bool :=
  alB (bat l tx)||(decide (bat l tx=43∨bat l tx=45)&&decide (k < tx)&&(if hex then decide (GL (bat l (tx - 1))=112) else decide (GL (bat l (tx - 1))=101)))
def QH (l:List UInt8) (hex:Bool) (k:Nat):Nat:=oJ (mE l hex k) (l.length - k) k
def OG (l:List UInt8) (hex:Bool) (k:Nat):Int × Int × Int :=
  let K:=yE ((l.drop k).take (QH l hex k - k))
  if K≠0 then (K,(QH l hex k:Int),0) else (0,0,4)
theorem BL (cont:Nat->Bool) (n tx:Nat) (h:cont tx=true) (ht:tx < n):oJ cont (n - tx) tx=oJ cont (n - (tx+1)) (tx+1):=by
  obtain⟨f,hf⟩:∃ f,n - tx=f+1:=⟨n - tx - 1,Cs⟩;rw [hf,oJ,Bb h];congr 1;omega
theorem cL (cont:Nat->Bool) (f tx:Nat) (h:cont tx=false):oJ cont f tx=tx:=by
  cases f with
  | zero=>rfl
  | succ f=>rw [oJ,Bc (by simp [h])]
theorem BG (l:List UInt8) (hex:Bool) (k tx:Nat) (h:QH l hex k=tx) :
    OG l hex k=if yE ((l.drop k).take (tx - k))≠0 then (yE ((l.drop k).take (tx - k)),(tx:Int),0) else (0,0,4):=by
  subst h;rfl
theorem SX (l:List UInt8) (k:Nat) (w:World) (hs:l.length<=1125899906842624) (hk:k < l.length) (hbeg:eE l k=true)
    (hh1:Lib.hasPrefix (l.drop k) [48,120]=true) :
    Calls Tryz.prog 224 #[.string ⟨l.toArray⟩,i8 k] w fun e w'=>e=.returned (.tuple #[.int .u8 (OG l true k).1,i8 (OG l true k).2.1,i8 (OG l true k).2.2])/\Below w.heap.size w w':=by
  go_in
  go_wp2_with (first
    | (go_at_call 262;refine (fH _ _ _ hs).mono ?_;rintro e w1 ⟨rfl,rfl⟩)
    | (go_at_call 220;refine (gN _ _ _).mono ?_;rintro e w1 ⟨rfl,rfl⟩))
  go_loop [8] (fun u=>∃ tx:Nat,k<=tx/\tx<=l.length/\u=i8 tx/\oJ (mE l true k) (l.length - tx) tx=QH l true k) (fun u=>l.length - (intOf u).toNat)
  case atStart=>exact⟨k,C' _,Cs,rfl,rfl⟩
  case round =>
    exact zai
theorem pY (l:List UInt8) (k:Nat) (w:World) (hs:l.length<=1125899906842624) (hk:k < l.length) (hbeg:eE l k=true)
    (hh1:Lib.hasPrefix (l.drop k) [48,120]=false) (hh2:Lib.hasPrefix (l.drop k) [48,88]=true) :
    Calls Tryz.prog 224 #[.string ⟨l.toArray⟩,i8 k] w fun e w'=>e=.returned (.tuple #[.int .u8 (OG l true k).1,i8 (OG l true k).2.1,i8 (OG l true k).2.2])/\Below w.heap.size w w':=by
  go_in
  go_wp2_with (first
    | (go_at_call 262;refine (fH _ _ _ hs).mono ?_;rintro e w1 ⟨rfl,rfl⟩)
    | (go_at_call 220;refine (gN _ _ _).mono ?_;rintro e w1 ⟨rfl,rfl⟩))
  go_loop [8] (fun u=>∃ tx:Nat,k<=tx/\tx<=l.length/\u=i8 tx/\oJ (mE l true k) (l.length - tx) tx=QH l true k) (fun u=>l.length - (intOf u).toNat)
  case atStart=>exact⟨k,C' _,Cs,rfl,rfl⟩
  case round =>
    exact zai
theorem RW (l:List UInt8) (k:Nat) (w:World) (hs:l.length<=1125899906842624) (hk:k < l.length) (hbeg:eE l k=true)
    (hh1:Lib.hasPrefix (l.drop k) [48,120]=false) (hh2:Lib.hasPrefix (l.drop k) [48,88]=false) :
    Calls Tryz.prog 224 #[.string ⟨l.toArray⟩,i8 k] w fun e w'=>e=.returned (.tuple #[.int .u8 (OG l false k).1,i8 (OG l false k).2.1,i8 (OG l false k).2.2])/\Below w.heap.size w w':=by
  go_in
  go_wp2_with (first
    | (go_at_call 262;refine (fH _ _ _ hs).mono ?_;rintro e w1 ⟨rfl,rfl⟩)
    | (go_at_call 220;refine (gN _ _ _).mono ?_;rintro e w1 ⟨rfl,rfl⟩))
  go_loop [8] (fun u=>∃ tx:Nat,k<=tx/\tx<=l.length/\u=i8 tx/\oJ (mE l false k) (l.length - tx) tx=QH l false k) (fun u=>l.length - (intOf u).toNat)
  case atStart=>exact⟨k,C' _,Cs,rfl,rfl⟩
  case round =>
    obtain⟨tx,hto,hle,rfl,htr⟩:=hrel;have Htr:=hid htr;clear htr hbeg;by_cases hlt:tx < l.length
    · go_wp2_with (first
        | (go_at_call 263;refine (tE _ _).mono ?_;rintro e w1 ⟨rfl,rfl⟩)
        | (go_at_call 264;refine (ZD _ _ Cz).mono ?_;rintro e w1 ⟨rfl,hb⟩))
      all_goals first
        | (go_round
           case rel =>
             have hct:mE l false k tx=true:=Fk
             exact zeu
           case measure=>simp [intOf];omega)
        | (go_ret3
           have hct:mE l false k tx=false:=by
             clear hb;simp only [mE,alB,bat,GL,Bool.or_eq_false_iff,Bool.and_eq_false_iff,decide_eq_false_iff_not]
             simp_all <;> omega
           have hen:QH l false k=tx:=Ge
           refine⟨TG ?_,hb⟩;rw [BG _ _ _ _ hen]
           simp_all)
    · go_wp2_with (first
        | (go_at_call 264;refine (ZD _ _ Cz).mono ?_;rintro e w1 ⟨rfl,hb⟩))
      all_goals
        (go_ret3
         have hen:QH l false k=tx:=Ee
         refine⟨TG ?_,hb⟩;rw [BG _ _ _ _ hen]
         simp_all)
def YE (l:List UInt8) (a:Int):Int × Int × Int:=if eE l a=true then OG l (bM l a.toNat) a.toNat else (0,0,15)
theorem yU (l:List UInt8) (a:Int) (w:World) (hs:l.length<=1125899906842624) :
    Calls Tryz.prog 224 #[.string ⟨l.toArray⟩,i8 a] w fun e w'=>e=.returned (.tuple #[.int .u8 (YE l a).1,i8 (YE l a).2.1,i8 (YE l a).2.2])/\Below w.heap.size w w':=by
  by_cases h0:eE l a=true
  · have hd:0<=a/\a < l.length:=by
      unfold eE at h0;simp only [Bz,Bq] at h0;exact h0.1
    obtain⟨k,rfl⟩:=Ad hd.1;have hk:k < l.length:=Cs
    unfold YE;rw [Bb h0,Ai];by_cases h1:Lib.hasPrefix (l.drop k) [48,120]=true
    · have:bM l k=true:=by simp [bM,h1]
      rw [this];exact SX l k w hs hk h0 h1
    · have h1:Lib.hasPrefix (l.drop k) [48,120]=false:=by simpa using h1
      by_cases h2:Lib.hasPrefix (l.drop k) [48,88]=true
      · have:bM l k=true:=by simp [bM,h2]
        rw [this];exact pY l k w hs hk h0 h1 h2
      · have h2:Lib.hasPrefix (l.drop k) [48,88]=false:=by simpa using h2
        have:bM l k=false:=by simp [bM,h1,h2]
        rw [this];exact RW l k w hs hk h0 h1 h2
  · have h0:eE l a=false:=by simpa using h0
    unfold YE;rw [Bc Lk]
    go_in
    go_wp2_with (first|(go_at_call 262;refine (fH _ _ _ hs).mono ?_;rintro e w1 ⟨rfl,rfl⟩));go_ret3;exact⟨rfl,N' _ _⟩
end Num
section
open Go.RowKit
variable {w:World}
def dec (l:List UInt8):Nat × Nat:=Lib.decodeGo ⟨l.toArray⟩
theorem pJ (l:List UInt8) (j:Nat):(ByteArray.mk l.toArray).get! j=l[j]?.getD 0:=by
 show l.toArray[j]! =_
 simp [getElem!_def];cases l[j]? <;> rfl
theorem RL {l:List UInt8}{i:Nat} (h:i < l.length):Utf8.decode ⟨l.toArray⟩ i=dec (l.drop i):=by
 have hne:(ByteArray.mk (l.drop i).toArray).size≠0:=Gh
 unfold dec Lib.decodeGo;rw [Bc hne,Lib.decode_at,Lib.decode_at];simp only [pJ,ByteArray.size,List.size_toArray,Ab,Nat.sub_zero,Nat.zero_add,List.getElem?_drop,Nat.add_zero]
theorem eG {l:List UInt8} (h:l≠[]):1<=(dec l).2:=by
 unfold dec Lib.decodeGo;rw [Bc Ey];exact Lib.width_pos _ _
def vB (l:List UInt8) (i:Int):Int × Int :=
 if i < 0∨(l.length:Int)<=i then (0,0) else if (dec (l.drop i.toNat)).1=65533/\(dec (l.drop i.toNat)).2 < 2 then (0,0) else (((dec (l.drop i.toNat)).1:Int),((dec (l.drop i.toNat)).2:Int))
theorem QI (l:List UInt8) (i:Int) (hs:l.length<=1125899906842624) (hT:NC w):Calls Tryz.prog 217 #[.string ⟨l.toArray⟩,i8 i] w (fun e w'=>e=.returned (.tuple #[.int .i32 (vB l i).1,i8 (vB l i).2])/\Below w.heap.size w w'):=by
 have hb:=N' w.heap.size w;by_cases h0:i < 0
 ·have e:vB l i=(0,0):=by unfold vB;rw [Bb (.inl h0)]
  rw [e]
  go_in
  exact zeh
 ·obtain⟨k,rfl⟩:=Ad (Int.not_lt.1 h0);by_cases hk:k < l.length
  ·obtain⟨d,hd⟩:∃ d,d=dec (l.drop k):=⟨_,rfl⟩;have e:vB l k=if d.1=65533/\d.2 < 2 then (0,0) else ((d.1:Int),(d.2:Int)):=by unfold vB;rw [Bc Cs,Ai,<- hd]
   rw [e];have hC:=Tryz.utf8_DecodeRuneInString ⟨(l.drop k).toArray⟩ w hT.1;have hd':Lib.decodeGo ⟨(l.drop k).toArray⟩=d:=hd.symm;rw [hd'] at hC;clear e hd hd' hT
   go_in
   go_wp2_with (go_at_call 253;refine hC.mono ?_;rintro e w1 ⟨rfl,hb⟩)
   all_goals go_ret2
   all_goals refine⟨?_,hb⟩
   all_goals first
    | rfl
    | (exfalso;omega)
    | (simp [*])
  ·have e:vB l k=(0,0):=by unfold vB;rw [Bb (.inr Cs)]
   rw [e]
   go_in
   exact zeh
def DE (l:List UInt8):Nat->Nat->Int
 | 0,_=>-1
 | f+1,p=>if p < l.length then (if (dec (l.drop p)).1=65533/\(vB l p).2=0 then (p:Int) else DE l f (p+(dec (l.drop p)).2)) else -1
def ZJ (l:List UInt8):Int:=DE l l.length 0
theorem YF {l:List UInt8}{f p:Nat} (h:¬ p < l.length):DE l f p=-1:=by
 cases f with
 | zero=>rfl
 | succ f=>simp [DE,h]
theorem tC {w:World}{k:Nat}{s:ByteArray}{p:Nat} (h:w.heap[k]?=some (.stringIter s p)):w.iterPos k=p:=by simp [World.iterPos,h]
theorem UP (l:List UInt8) (hs:l.length<=1125899906842624) (hT:NC w):Calls Tryz.prog 182 #[.string ⟨l.toArray⟩] w (fun e w'=>e=.returned (i8 (ZJ l))/\Below w.heap.size w w'):=by
 have hsz:(ByteArray.mk l.toArray).size=l.length:=Fe
 go_in
 go_wp2_with fail
 go_loopw [3] (fun _ wr=>∃ (pos fuel:Nat),wr.heap[w.heap.size]?=some (.stringIter ⟨l.toArray⟩ pos)/\Below w.heap.size w wr/\DE l fuel pos=ZJ l/\l.length<=pos+fuel) (fun _ wr=>l.length - wr.iterPos w.heap.size)
 case atStart=>exact⟨0,l.length,World.iter_heap w _ 0,(N' _ _).alloc (C' _) _,rfl,Cs⟩
 case round =>
  obtain⟨pos,fuel,hit,hbw,HB,hfu⟩:=hrel;have hpos0:=tC hit;by_cases hp:pos < l.length
  ·have hnx:∀ ty,(Instr.next (p8 w.heap.size) true ty).run Tryz.prog wr=_:=fun ty=>Lib.run_next_any_at wr w.heap.size _ pos ty hit Ez
   rw [RL hp] at hnx;have hwd:=eG (l:=l.drop pos) Ed;obtain⟨fuel,rfl⟩:∃ f',fuel=f'+1:=⟨fuel - 1,Cs⟩;have hit2:=Lib.iterAt_heap wr w.heap.size _ pos (pos+(dec (l.drop pos)).2) hit;have hbw2:=Lib.below_iterAt hbw (k:=w.heap.size) (C' _) ⟨l.toArray⟩ (pos+(dec (l.drop pos)).2);have hT2:NC (wr.iterAt w.heap.size ⟨l.toArray⟩ (pos+(dec (l.drop pos)).2)):=hT.below hbw2;have hBlt:=lt_of_block hit2;have hC:=QI (w:=wr.iterAt w.heap.size ⟨l.toArray⟩ (pos+(dec (l.drop pos)).2)) l pos hs hT2;rw [DE,Bb hp] at HB;obtain⟨d,hd⟩:∃ d,d=dec (l.drop pos):=⟨_,rfl⟩;rw [<- hd] at hnx hwd hit2 hbw2 hT2 hBlt hC HB;obtain⟨r,hr⟩:∃ r,r=vB l pos:=⟨_,rfl⟩;rw [<- hr] at hC HB;obtain⟨W1,hW1⟩:∃ W1,W1=wr.iterAt w.heap.size ⟨l.toArray⟩ (pos+d.2):=⟨_,rfl⟩;rw [<- hW1] at hnx hit2 hbw2 hT2 hBlt hC;replace HB:=hid HB;have HP:=hid (Az hpos0 (Az hp (Az hwd hfu)));have HI:=hid (Az hit2 (Az hbw2 hBlt));clear hit2 hbw2 hBlt hit hbw hpos0 hfu hwd hp hd hr hW1 hT hsz;go_wp2_with (go_at_call 217;refine hC.mono ?_;rintro e w2 ⟨rfl,hb2⟩)
   all_goals obtain⟨hit2,hbw2,hBlt⟩:=HI.out
   all_goals obtain⟨hpos0,hp,hwd,hfu⟩:=HP.out
   all_goals have HB:=HB.out
   ·have e:¬ (d.1=65533/\r.2=0):=by rintro⟨e,_⟩;simp_all
    rw [Bc e] at HB;exact⟨⟨pos+d.2,fuel,hit2,hbw2,HB,Cs⟩,Jd⟩
   ·have e:d.1=65533/\r.2=0:=by constructor <;> simp_all <;> omega
    rw [Bb e] at HB;rw [<- HB];go_ret;exact⟨rfl,dA hbw2 hb2⟩
   ·have e:¬ (d.1=65533/\r.2=0):=by rintro⟨_,e⟩;simp_all
    rw [Bc e] at HB;have hit3:=(hb2.block _ hBlt).trans hit2;exact⟨⟨pos+d.2,fuel,hit3,dA hbw2 hb2,HB,Cs⟩,Je⟩
  ·have hnx:∀ ty,(Instr.next (p8 w.heap.size) true ty).run Tryz.prog wr=_:=fun ty=>Lib.run_next_end_at wr w.heap.size _ pos ty hit Ez
   have HB:=hid HB;have HI:=hid hbw;clear hit hbw;go_wp2_with fail;go_ret;have e:=HB.out;rw [YF hp] at e;rw [<- e];exact⟨rfl,HI.out⟩
end
section
open Go.RowKit
variable {w:World}
theorem vI (r:Int) (w:World):Calls Tryz.prog 294 #[.int .i32 r] w (fun e w'=>e=.returned (.bool (Lib.validRune r))/\w'=w):=Tryz.utf8_ValidRune r w
def sF (r:Int):List UInt8:=if Lib.validRune r then (Utf8.encode r).data.toList else []
theorem wN (r:Int):Calls Tryz.prog 308 #[.int .i32 r] w (fun e w'=>e=.returned (.string ⟨(sF r).toArray⟩)/\w'=w):=by
 by_cases h:Lib.validRune r=true
 ·have e:sF r=(Utf8.encode r).data.toList:=by unfold sF;rw [Bb h]
  rw [e]
  go_in
  exact ze1
 ·have h:Lib.validRune r=false:=by simpa using h
  have e:sF r=[]:=by unfold sF;rw [Bc (by simp [h])]
  rw [e]
  go_in
  exact ze1
def OH (n:Int):Int:=if 48<=n/\n<=57 then n - 48 else if 97<=n/\n<=102 then n - 97+10 else if 65<=n/\n<=70 then n - 65+10 else -1
theorem yT (n:Int) (h:0<=n) (h2:n<=255):Calls Tryz.prog 309 #[.int .i32 n] w fun e w'=>e=.returned (i8 (OH n))/\w'=w:=by
 go_in
 go_wp2
 all_goals (go_ret;exact⟨Num.dE Lh,rfl⟩)
theorem LM (b:UInt8) (w:World):Calls Tryz.prog 309 #[.int .i32 (wrap32 (b.toNat:Int))] w fun e w'=>e=.returned (i8 (OH b.toNat))/\w'=w:=by
 have hb:=b.toNat_lt;have e:wrap32 (b.toNat:Int)=b.toNat:=by unfold wrap32;omega
 rw [e];exact yT _ Cs Cs
theorem GP (b:UInt8) {w:World}{a n:Nat}:Calls Tryz.prog 309 #[.int .i32 (wrap32 (b.toNat:Int))] (w.drewN (a+n)) fun e w''=>e=.returned (i8 (OH b.toNat))/\∃ m,w''=w.drewN (a+m) :=
 (LM b _).mono fun _ _ ⟨he,hm⟩=>⟨he,n,hm⟩
theorem XR (n:Int):-1<=OH n/\OH n < 16:=Lh
structure Qs where
 k:Nat
 out:List UInt8
 bad:Bool
structure Rq (c:Nat) (w0:World) (l:List UInt8) (m:UInt8) (q:Qs) (w:World):Prop where
 blk:∃ ov,w.heap[c]?=some (.cells #[.string ⟨l.toArray⟩,i8 (q.k:Int),.int .u8 (m.toNat:Int),ov,.bool q.bad] 191 (0,0))/\w.ownsRow (c+1) 5 1 ov q.out.length (Lib.byteCells q.out)
 bel:Below c w0 w
theorem Rq.lt {c:Nat}{w0:World}{l:List UInt8}{m:UInt8}{q:Qs}{w:World} (h:Rq c w0 l m q w):c < w.heap.size:=by
 obtain⟨ov,h1,_⟩:=h.blk;exact lt_of_block h1
theorem CA {b:Nat}{x0 x1 x2 x3 x4:Value}{T:TypeId} (h:w.heap[b]?=some (.cells #[x0,x1,x2,x3,x4] T (0,0))):w.cell? (y8 b 0)=some x0/\w.cell? (y8 b 1)=some x1/\w.cell? (y8 b 2)=some x2/\w.cell? (y8 b 3)=some x3/\w.cell? (y8 b 4)=some x4/\w.frozen? (y8 b 1)=false/\w.frozen? (y8 b 2)=false/\w.frozen? (y8 b 3)=false/\w.frozen? (y8 b 4)=false:=by
 refine⟨?_,?_,?_,?_,?_,?_,?_,?_,?_⟩
 all_goals first
  | (unfold World.cell?;rw [h];rfl)
  | (unfold World.frozen?;rw [h];rfl)
theorem rA {w:World}{base:Nat}{e:TypeId}{size:Nat}{v:Value}{n:Nat}{xs:List Value} (h:w.ownsRow base e size v n xs) (a:Addr) (ha:a.block < base) (x:Value):(w.setCell a x).ownsRow base e size v n xs:=by
 obtain⟨h1,h2⟩:=h;refine⟨h1,?_⟩;rcases h2 with h2|⟨g,cap,cur,e1,e2,e3,e4⟩
 ·exact .inl h2
 ·exact .inr ⟨g,cap,cur,e1,e2,by rw [Ah _ _ _ _ Cs];exact e3,e4⟩
theorem Rq.at_ {c:Nat}{w0:World}{l:List UInt8}{m:UInt8}{q:Qs}{w:World} (h:Rq c w0 l m q w) (k':Nat):Rq c w0 l m ⟨k',q.out,q.bad⟩ (w.setCell (y8 c 1) (i8 (k':Int))):=by
 obtain⟨ov,h1,h2⟩:=h.blk;exact⟨⟨ov,Ii,rA h2 _ Cu _⟩,h.bel.setCell (p:=(y8 c 1)) (C' _) _⟩
theorem Rq.mark {c:Nat}{w0:World}{l:List UInt8}{m:UInt8}{q:Qs}{w:World} (h:Rq c w0 l m q w) (m':UInt8):Rq c w0 l m' q (w.setCell (y8 c 2) (.int .u8 (m'.toNat:Int))):=by
 obtain⟨ov,h1,h2⟩:=h.blk;exact⟨⟨ov,by rw [heap_setCell_same w c 2 _ _ _ h1];rfl,rA h2 _ Cu _⟩,h.bel.setCell (p:=(y8 c 2)) (C' _) _⟩
theorem Rq.bad_ {c:Nat}{w0:World}{l:List UInt8}{m:UInt8}{q:Qs}{w:World} (h:Rq c w0 l m q w) (b:Bool):Rq c w0 l m ⟨q.k,q.out,b⟩ (w.setCell (y8 c 4) (.bool b)):=by
 obtain⟨ov,h1,h2⟩:=h.blk;exact⟨⟨ov,by rw [heap_setCell_same w c 4 _ _ _ h1];rfl,rA h2 _ Cu _⟩,h.bel.setCell (p:=(y8 c 4)) (C' _) _⟩
theorem Rq.drewN {c:Nat}{w0:World}{l:List UInt8}{m:UInt8}{q:Qs}{w:World} (h:Rq c w0 l m q w) (n:Nat):Rq c w0 l m q (w.drewN n):=by
 obtain⟨ov,h1,h2⟩:=h.blk;exact⟨⟨ov,h1,h2⟩,h.bel.trans ⟨rfl,rfl,rfl,C' _,fun _ _=>rfl⟩⟩
def nD (l:List UInt8) (k:Nat):Int:=if k < l.length then OH (Num.bat l k) else 99
def TA (l:List UInt8) (base:Int):Nat->Qs->Int->Int × Qs
 | 0,q,n=>(n,q)
 | f+1,q,n=>if nD l q.k < 0∨base<=nD l q.k then (0,⟨q.k,q.out,true⟩) else TA l base f ⟨q.k+1,q.out,q.bad⟩ (n*base+nD l q.k)
theorem VF {c:Nat}{w0:World}{l:List UInt8}{m:UInt8}{q:Qs} (cnt:Nat) (base:Int) (H:Rq c w0 l m q w) (hl:l.length<=1048576) (hk:q.k<=l.length) (hc:cnt<=8) (hb:base=8∨base=16) :
  Calls Tryz.prog 302 #[p8 c,i8 cnt,i8 base] w (fun e w'=>e=.returned (i8 (TA l base cnt q 0).1)/\Rq c w0 l m (TA l base cnt q 0).2 w'):=by
 go_in
 go_wp2_with fail
 go_loopg [7,10] cnt (fun j v7 v10 wr=>∃ (i:Nat) (n:Int) (p:Qs),v7=i8 n/\v10=i8 (i:Int)/\i+j=cnt/\Rq c w0 l m p wr/\TA l base j p n=TA l base cnt q 0/\0<=n/\n < 16 ^ i/\p.k<=l.length)
 case atStart=>exact⟨0,0,q,rfl,rfl,Cs,H,rfl,Cs,Ct,hk⟩
 case round =>
  obtain⟨i,n,p,rfl,rfl,hj,HR,HN,hn0,hn1,hpk⟩:=hrel;have hi:i<=8:=Cs
  have hp16:(16:Int) ^ i<=4294967296:=by
   have:i=0∨i=1∨i=2∨i=3∨i=4∨i=5∨i=6∨i=7∨i=8:=Cs
   rcases this with rfl|rfl|rfl|rfl|rfl|rfl|rfl|rfl|rfl <;> decide
  obtain⟨ov,hblk,hown⟩:=HR.blk;obtain⟨c0,c1,c2,c3,c4,f1,f2,f3,f4⟩:=CA hblk;have HK:=hid (Az HR (Az HN (Az hn1 (Az hj (Az hi hown)))));clear HR HN hn1 hown hblk H hk hc;obtain⟨k,out,bad⟩:=p;simp only [] at c0 c1 c2 c3 c4 hpk;by_cases hic:i < cnt
  ·have d0:decide ((i:Int) < (cnt:Int))=true:=by simpa using hic
   have hbat:0<=Num.bat l k/\Num.bat l k<=255:=by unfold Num.bat;have:=UInt8.toNat_lt (l[k]?.getD 0);omega
   by_cases hkl:k < l.length
   ·have d1:decide ((k:Int) < (l.length:Int))=true:=by simpa using hkl
    have hB:=XR (l[k]).toNat;have hQ:nD l k=OH (l[k]).toNat:=by unfold nD Num.bat;rw [Bb hkl,O' hkl];rfl
    obtain⟨b,hb⟩:∃ b,b=l[k]:=⟨_,rfl⟩;have HB:=hid hB;have HQ:=hid hQ;clear hbat hB hQ hb;go_wp2_with fail;go_quiet (fail);go_wp2_with fail;generalize nq=na at *;go_quiet ((go_at_call 309;exact GP _));have hB:=XR (l[k]).toNat;have hQ:=HQ.out;generalize OH (l[k]).toNat=d at *;have hR:=Rq.drewN (Rq.drewN HK.out.1 na) nq;have HR:=hid hR;obtain⟨ov,hblk,hown⟩:=hR.blk;clear c0 c1 c2 c3 c4 f1 f2 f3 f4 hR;obtain⟨c0,c1,c2,c3,c4,f1,f2,f3,f4⟩:=CA hblk;clear hblk hown;simp only [] at c0 c1 c2 c3 c4;generalize (wr.drewN na).drewN nq=wx at *;have hstep:TA l base cnt q 0=if d < 0∨base<=d then (0,⟨k,out,true⟩) else TA l base (cnt - i - 1) ⟨k+1,out,bad⟩ (n*base+d):=by
     obtain⟨_,HN,_,hj,_,_⟩:=HK.out;obtain⟨j',rfl⟩:∃ j',gk=j'+1:=⟨gk - 1,Cs⟩;rw [<- HN,TA,hQ];have:cnt - i - 1=j':=Cs
     rw [this]
    by_cases hd:d < 0∨base<=d
    ·rw [Bb hd] at hstep;have HS:=hid hstep;clear hstep;by_cases hd0:d < 0
     ·have e0:decide (d < 0)=true:=by simpa using hd0
      exact zdr
     ·have e0:decide (d < 0)=false:=by simpa using hd0
      have e1:decide (base<=d)=true:=Cv
      exact zdr
    ·rw [Bc hd] at hstep;have HS:=hid hstep;clear hstep;have e0:decide (d < 0)=false:=by simp;omega
     have e1:decide (base<=d)=false:=Cv
     have HD:=hid (Az (show 0<=d by omega) (show d < base by omega));clear hd;have hn1:=HK.out.2.2.1;have hd:=HD.out;have w1:IntKind.i64.wrap (n*base)=n*base:=IntWalk.i64_in _ Jj;have w2:IntKind.i64.wrap (n*base+d)=n*base+d:=IntWalk.i64_in _ Jj;clear hn1 hd;go_wp2_with fail;have hR2:=Rq.at_ HR.out (k+1);have hstepB:=HS.out;obtain⟨_,_,hn1,hj,_,_⟩:=HK.out;have hd:=HD.out;go_roundg (cnt - i - 1)
     case measure=>omega
     case rel=>exact⟨i+1,n*base+d,⟨k+1,out,bad⟩,rfl,Cu,Cs,hR2,hstepB.symm,Int.add_nonneg (Int.mul_nonneg hn0 Cs) Cs,Gv,En⟩
   ·have d1:decide ((k:Int) < (l.length:Int))=false:=by simpa using hkl
    have hQ:nD l k=99:=by unfold nD;rw [Bc hkl]
    have hstep:TA l base cnt q 0=(0,⟨k,out,true⟩):=by
     obtain⟨_,HN,_,hj,_,_⟩:=HK.out;obtain⟨j',rfl⟩:∃ j',gk=j'+1:=⟨gk - 1,Cs⟩;rw [<- HN,TA,hQ,Bb (.inr Cs)]
    have HS:=hid hstep;have e1:decide (base<=99)=true:=Cv
    clear hstep hQ;go_wp2_with fail;go_quiet (fail);go_wp2_with fail;go_ret;rw [HS.out];exact⟨rfl,Rq.bad_ (HK.out.1.drewN _) true⟩
  ·have d0:decide ((i:Int) < (cnt:Int))=false:=by simpa using hic
   go_wp2_with fail;go_ret;obtain⟨hR,HN,_,hj,_,_⟩:=HK.out;have hg:gk=0:=Cs
   subst hg;rw [<- HN];exact⟨rfl,hR⟩
theorem Tryz.infoU8:(Tryz.prog.info? 5).map (fun i=>(i.zero,i.size,i.bytes))=some (some (.int .u8 0),1,1):=Cw
theorem Tryz.underBs:Tryz.prog.underlying 32=some (.slice 5):=Cw
theorem Tryz.underStr:Tryz.prog.underlying 9=some .string:=Cw
theorem ND {w:World}{base:Nat}{e:TypeId}{size:Nat}{v:Value}{n:Nat}{xs:List Value} (h:w.ownsRow base e size v n xs):∃ a m k,v=.slice a m k:=by
 rcases h.2 with h|⟨g,cap,cur,e1,_⟩
 ·exact⟨_,_,_,h.1⟩
 ·exact⟨_,_,_,e1⟩
theorem LD {w w':World}{base:Nat}{e:TypeId}{size:Nat}{v:Value}{n:Nat}{xs:List Value} (h:w.ownsRow base e size v n xs) (hb:Below w.heap.size w w'):w'.ownsRow base e size v n xs:=by
 obtain⟨h1,h2⟩:=h;refine⟨h1,?_⟩;rcases h2 with h2|⟨g,cap,cur,e1,e2,e3,e4⟩
 ·exact .inl h2
 ·exact .inr ⟨g,cap,cur,e1,e2,by rw [hb.block _ (lt_of_block e3)];exact e3,e4⟩
theorem Rq.later {c:Nat}{w0:World}{l:List UInt8}{m:UInt8}{q:Qs}{w w':World} (h:Rq c w0 l m q w) (hb:Below w.heap.size w w'):Rq c w0 l m q w':=by
 obtain⟨ov,h1,h2⟩:=h.blk;have hc:=lt_of_block h1;exact⟨⟨ov,by rw [hb.block _ hc];exact h1,LD h2 hb⟩,h.bel.trans (hb.mono Cs)⟩
theorem uE {w w':World}{c n:Nat}{o:Obj}{ov:Value}{xs:List Value}{e:TypeId}{sz:Nat} (hc:w.heap[c]?=some o) (hown:w.ownsRow (c+1) e sz ov n xs) (hg:w.grownBy w' ov.ownBlock):w'.heap[c]?=some o :=
 (hg.block c (lt_of_block hc) (fun h=>by have:=(hown.lt _ h.symm).1;omega)).trans hc
theorem Rq.push {c:Nat}{w0:World}{l:List UInt8}{m:UInt8}{q:Qs}{w w':World}{ov v':Value}{bs:List UInt8}{n:Nat}{xs:List Value} (hb:Below c w0 w) (hc:w.heap[c]?=some (.cells #[.string ⟨l.toArray⟩,i8 (q.k:Int),.int .u8 (m.toNat:Int),ov,.bool q.bad] 191 (0,0)))
  (hown:w.ownsRow (c+1) 5 1 ov q.out.length (Lib.byteCells q.out)) (hg:w.grownBy w' ov.ownBlock) (hown':w'.ownsRow (c+1) 5 1 v' n xs) (hn:n=q.out.length+bs.length) (hx:xs=Lib.byteCells q.out++Lib.byteCells bs) :
  Rq c w0 l m ⟨q.k,q.out++bs,q.bad⟩ (w'.setCell (y8 c 3) v'):=by
 have hc':=uE hc hown hg;have hB:Below c w0 w':=hb.grown hg (by have:=lt_of_block hc;omega) (fun j hj=>by have:=(hown.lt _ hj).1;omega);subst hn hx;refine⟨⟨v',by rw [heap_setCell_same w' c 3 _ _ _ hc'];rfl,?_⟩,hB.setCell (p:=(y8 c 3)) (C' _) _⟩;have h2:=rA hown' (y8 c 3) Cu v';simpa [Lib.byteCells_append] using h2
section
variable {P:Program}
theorem sH (w:World) {ops:Array Oper}{o:Oper}{a:Act}{K:Act->World->Prop}{Q:Exit->Act->World->Prop}{E:Prop} (hgd:o.guard=none) (sl x:Operand) (t u:TypeId)
  (ho:o.op=.call { callee:=.builtin .append,args:=#[sl,x],argTypes:=#[t,u] })
  (base:Nat) (e:TypeId) (i:TypeInfo) (ht:P.underlying t=some (.slice e)) (hu:P.underlying u=some .string) (hi:P.info? e=some i) (hz:i.zero=some (.int .u8 0))
  (hsize:i.size=1) (hby:i.bytes=1)
  (v:Value) (n:Nat) (xs:List Value) (hs:a.eval sl=v) (hown:w.ownsRow base e 1 v n xs) (s:ByteArray) (hx:a.eval x=.string s)
  (h63:n+s.size<=maxLen) (hbytes:n+s.size<=140737488355328) (hbase:base<=w.heap.size)
  (h:∀ v' w',w'.ownsRow base e 1 v' (n+s.size) (xs++Lib.strCells s)->w.grownBy w' v.ownBlock->K (a.put o.dst v') w') :
  if Region.wanted o (yielded ops a.tmps)=true then Oper.wp P o a w K Q else E:=by
 have hw:Region.wanted o (yielded ops a.tmps)=true:=by simp [Region.wanted,hgd]
 rw [Bb hw];obtain⟨v',w',hr,h2,h3,_⟩:=Lib.run_append_own_string (P:=P) w base t u o.type e i ht hu hi hz hsize hby v n xs hown s h63 hbytes hbase;unfold Oper.wp execOp;simp only [ho,resolve,invoke,builtin,Sem.run_bind,Sem.run_pure,Result.andThen_ok,List.map_toArray,List.map_cons,List.map_nil,hs,hx,hr];exact h v' w' h2 h3
end
def ED (m:UInt8) (n:Int) (char:Bool) (q:Qs):Qs :=
 if char=false/\m=34 then ⟨q.k,q.out++[n.toNat.toUInt8],q.bad⟩
 else if 1114111 < n∨sF n=[] then ⟨q.k,q.out,true⟩
 else ⟨q.k,q.out++sF n,q.bad⟩
theorem cS (n:Int):(sF n).length<=4:=by
 unfold sF;split
 ·rename_i h;by_cases h1:128<=n
  ·have:=(encode_facts n (by rw [validRune_eq];exact h) h1).2.1;exact this
  ·have h0:0<=n:=by unfold Lib.validRune at h;simp at h;omega
   have hv:Utf8.valid n=true:=by rw [validRune_eq];exact h
   unfold Utf8.encode;simp only [hv,Be];rw [Bb Cs];simp
 ·simp
theorem cI {c:Nat}{w0:World}{l:List UInt8}{m:UInt8}{q:Qs} (n:Int) (char:Bool) (H:Rq c w0 l m q w) (hn0:0<=n) (hn1:n < 4294967296) (hch:char=false->n < 256) (ho:q.out.length<=4800000) :
  Calls Tryz.prog 301 #[p8 c,i8 n,.bool char] w (fun e w'=>e=.returned (.tuple #[])/\Rq c w0 l m (ED m n char q) w'):=by
 obtain⟨iU,hiU,hz0,hz1,hz2⟩:=info_parts Tryz.infoU8;obtain⟨k,out,bad⟩:=q;obtain⟨ov,hblk,hown⟩:=H.blk;obtain⟨c0,c1,c2,c3,c4,f1,f2,f3,f4⟩:=CA hblk;simp only [] at hblk hown c1 c4 ho;have hclt:=lt_of_block hblk;by_cases hA:char=false/\m=34
 ·obtain⟨rfl,rfl⟩:=hA;have e:ED 34 n false ⟨k,out,bad⟩=⟨k,out++[n.toNat.toUInt8],bad⟩:=rfl;rw [e];have hn:=hch rfl;have hw8:IntKind.u8.wrap n=n:=by simp [IntKind.wrap,IntKind.bits,IntKind.signed];omega
  have hcell:Lib.byteCells [n.toNat.toUInt8]=[.int .u8 n]:=by simp [Lib.byteCells];omega
  go_in
  go_wp2_with (at_builtin;refine wpList_append_lies _ rfl _ _ 32 rfl (c+1) 5 iU _ 1 1 Tryz.underBs hiU hz0 hz1 hz2 rfl Ct ov out.length (Lib.byteCells out) rfl (hown.alloc _) ⟨w.heap.size,0,none⟩ 1 1 [.int .u8 n] rfl rfl (At (B8 _ _)) Dq Ct Da Cs Cv _ rfl ?_;intro g cap w2 hown2 hgrow2 hat2 hlt2;have hb2:=uE ((Af _ _ _ hclt).trans hblk) (hown.alloc _) hgrow2;obtain⟨_,_,_,k3,_,_,_,z3,_⟩:=CA hb2)
  (try simp only [Exit.inBlock,Exit.then]);refine Ca (results_none rfl _ _ _) rfl ?_
  exact⟨rfl,Rq.push (q:=⟨k,out,bad⟩) (bs:=[n.toNat.toUInt8]) (H.bel.alloc Cs _) ((Af _ _ _ hclt).trans hblk) (hown.alloc _) hgrow2 hown2 rfl (by rw [hcell])⟩
 ·have hA':char=true∨char=false/\((m.toNat:Int)==34)=false:=by
   cases char
   ·refine .inr ⟨rfl,?_⟩;rw [Bi];intro e;exact hA ⟨rfl,Ay.1 (by show _=34;omega)⟩
   ·exact .inl rfl
  have e:ED m n char ⟨k,out,bad⟩=if 1114111 < n∨sF n=[] then ⟨k,out,true⟩ else ⟨k,out++sF n,bad⟩:=by unfold ED;rw [Bc hA]
  rw [e];clear e hA hch;have hfl:=cS n;by_cases hB:1114111 < n
  ·rw [Bb (.inl hB)];have d0:decide (1114111 < n)=true:=by simpa using hB
   clear hown hblk hB;rcases hA' with rfl|⟨rfl,hm⟩
   all_goals
    go_in
    go_wp2_with fail
    (try simp only [Exit.inBlock,Exit.then]);refine Ca (results_none rfl _ _ _) rfl ?_
    exact⟨rfl,H.bad_ true⟩
  ·have d0:decide (1114111 < n)=false:=by simpa using hB
   have hw:wrap32 n=n:=by unfold wrap32;omega
   by_cases hC:sF n=[]
   ·rw [Bb (.inr hC)];have hF:=wN n (w:=w);rw [hC] at hF;clear hown hblk hB;rcases hA' with rfl|⟨rfl,hm⟩
    all_goals
     go_in
     go_wp2_with (go_at_call 308;refine hF.mono ?_;rintro e w1 ⟨rfl,rfl⟩)
     (try simp only [Exit.inBlock,Exit.then]);refine Ca (results_none rfl _ _ _) rfl ?_
     exact⟨rfl,H.bad_ true⟩
   ·rw [Bc (by intro h;rcases h with h|h;exact hB h;exact hC h)];have hC':(sF n==[])=false:=by simpa using hC
    have hF:=fun w=>wN n (w:=w)
    have hw2:IntKind.i32.wrap n=n:=Cy
    clear hB hC;rcases hA' with rfl|⟨rfl,hm⟩
    all_goals
     go_in
     go_wp2_with (go_at_call 308;refine (hF _).mono ?_;rintro e w1 ⟨rfl,rfl⟩);have hsz:(ByteArray.mk (sF n).toArray).size=(sF n).length:=Fe
     go_region_law ((first|(go_simp;go_at_call 308;refine (hF _).mono ?_;rintro e w9 ⟨rfl,rfl⟩)|(refine sH _ Db _ _ _ _ Db (c+1) 5 iU Tryz.underBs Tryz.underStr hiU hz0 hz1 hz2 ov out.length (Lib.byteCells out) Db hown.drew ⟨(sF n).toArray⟩ Db Kn (by rw [hsz];omega) hclt ?_;intro v2 w2 hown2 hgrow2;obtain⟨va2,vn2,vc2,rfl⟩:=ND hown2;have hb2:=uE (by exact hblk) hown.drew hgrow2;obtain⟨_,_,_,k3,_,_,_,z3,_⟩:=CA hb2)))
     all_goals
      go_wp2_with fail;go_end0;exact⟨rfl,Rq.push (q:=⟨k,out,bad⟩) (bs:=sF n) H.bel.drew hblk hown.drew hgrow2 hown2 (by rw [hsz]) rfl⟩
end
section
open Go.RowKit
variable {w:World}
theorem rE (l:List UInt8) (base:Int) (hb:base=8∨base=16):∀ (f:Nat) (q:Qs) (n:Int) (i:Nat),0<=n->n < base ^ i->q.k<=l.length ->
  0<=(TA l base f q n).1/\(TA l base f q n).1 < base ^ (i+f)/\q.k<=(TA l base f q n).2.k/\(TA l base f q n).2.k<=l.length/\(TA l base f q n).2.out=q.out
 | 0,q,n,i,h0,h1,hk=>⟨h0,h1,C' _,hk,rfl⟩
 | f+1,q,n,i,h0,h1,hk=>by
  have hp:∀ j:Nat,(0:Int) < base ^ j:=fun j=>Int.pow_pos (by rcases hb with rfl|rfl <;> decide)
  rw [TA];split
  ·exact⟨Int.le_refl _,hp _,C' _,hk,rfl⟩
  ·rename_i hd;have hlt:q.k < l.length:=by
    apply Classical.byContradiction;intro hn;apply hd
    right
    unfold nD;rw [Bc hn];omega
   have hd0:0<=nD l q.k:=Cs
   have hd1:nD l q.k < base:=Cs
   have hm:0<=n*base:=Int.mul_nonneg h0 Cs;obtain⟨a,b,c,d,e⟩:=rE l base hb f ⟨q.k+1,q.out,q.bad⟩ (n*base+nD l q.k) (i+1) Cs Gv Kg;exact⟨a,by rw [show i+(f+1)=i+1+f by omega];exact b,by have c:q.k+1<=_:=c;omega,d,e⟩
theorem WH (m:UInt8) (n:Int) (ch:Bool) (q:Qs):(ED m n ch q).k=q.k/\(ED m n ch q).out.length<=q.out.length+4/\q.out.length<=(ED m n ch q).out.length:=by
 have:=cS n;unfold ED;split
 ·simp
 ·split
  ·simp
  ·simp;omega
def qW (c:UInt8):UInt8:=([7,8,12,10,13,9,11,92]:List UInt8)[(Lib.indexByte [97,98,102,110,114,116,118,92] c).toNat]?.getD 0
def zC (l:List UInt8) (m:UInt8) (q:Qs):Qs :=
 if h:q.k < l.length then
  if 0<=Lib.indexByte [97,98,102,110,114,116,118,92] l[q.k] then ⟨q.k+1,q.out++[qW l[q.k]],q.bad⟩
  else if l[q.k]=m then ⟨q.k+1,q.out++[l[q.k]],q.bad⟩
  else if l[q.k]=120 then ED m (TA l 16 2 ⟨q.k+1,q.out,q.bad⟩ 0).1 false (TA l 16 2 ⟨q.k+1,q.out,q.bad⟩ 0).2
  else if l[q.k]=85 then ED m (TA l 16 8 ⟨q.k+1,q.out,q.bad⟩ 0).1 true (TA l 16 8 ⟨q.k+1,q.out,q.bad⟩ 0).2
  else if l[q.k]=117 then ED m (TA l 16 4 ⟨q.k+1,q.out,q.bad⟩ 0).1 true (TA l 16 4 ⟨q.k+1,q.out,q.bad⟩ 0).2
  else ED m ((TA l 8 3 q 0).1 % 256) false ⟨(TA l 8 3 q 0).2.k,(TA l 8 3 q 0).2.out,(TA l 8 3 q 0).2.bad||decide (255 < (TA l 8 3 q 0).1)⟩
 else ⟨q.k,q.out,true⟩
theorem WX {w:World}{c n S:Nat}{a b d e ov:Value}{T E:TypeId}{xs:List Value} (h1:w.heap[c]?=some (.cells #[a,b,d,ov,e] T (0,0))) (h2:w.ownsRow (c+1) E S ov n xs) (x:Value) :
  (w.setCell (y8 c 1) x).heap[c]?=some (.cells #[a,x,d,ov,e] T (0,0))/\(w.setCell (y8 c 1) x).ownsRow (c+1) E S ov n xs :=
 ⟨Ii,rA h2 _ Cu _⟩
theorem ZW:∀ n < 256,0<=Lib.indexByte ([97,98,102,110,114,116,118,92]:List UInt8) (UInt8.ofNat n)->Lib.indexByte ([97,98,102,110,114,116,118,92]:List UInt8) (UInt8.ofNat n) < 8:=Ef
theorem uT (x:UInt8) (h:0<=Lib.indexByte ([97,98,102,110,114,116,118,92]:List UInt8) x):Lib.indexByte ([97,98,102,110,114,116,118,92]:List UInt8) x=0∨Lib.indexByte ([97,98,102,110,114,116,118,92]:List UInt8) x=1∨Lib.indexByte ([97,98,102,110,114,116,118,92]:List UInt8) x=2∨Lib.indexByte ([97,98,102,110,114,116,118,92]:List UInt8) x=3∨Lib.indexByte ([97,98,102,110,114,116,118,92]:List UInt8) x=4∨Lib.indexByte ([97,98,102,110,114,116,118,92]:List UInt8) x=5∨Lib.indexByte ([97,98,102,110,114,116,118,92]:List UInt8) x=6∨Lib.indexByte ([97,98,102,110,114,116,118,92]:List UInt8) x=7:=by
 have:=ZW x.toNat x.toNat_lt;rw [UInt8.ofNat_toNat] at this;have:=this h;omega
theorem CR {c:Nat}{w0:World}{l:List UInt8}{m:UInt8}{k:Nat}{out:List UInt8}{bad:Bool} (H:Rq c w0 l m ⟨k,out,bad⟩ w) (hl:l.length<=1048576) (hkl:k < l.length) (ho:out.length<=4*k) (h1:0<=Lib.indexByte ([97,98,102,110,114,116,118,92]:List UInt8) l[k]) :
  Calls Tryz.prog 291 #[p8 c] w (fun e w'=>e=.returned (.tuple #[])/\Rq c w0 l m (⟨k+1,out++[qW l[k]],bad⟩) w'):=by
 obtain⟨iU,hiU,hz0,hz1,hz2⟩:=info_parts Tryz.infoU8;obtain⟨ov,hblk,hown⟩:=H.blk;obtain⟨c0,c1,c2,c3,c4,f1,f2,f3,f4⟩:=CA hblk;simp only [] at hblk hown c1 c4;have hclt:=lt_of_block hblk;have d1:decide ((l.length:Int)<=(k:Int))=false:=Cv
 have hI:=fun w=>Tryz.strings_IndexByte ⟨([97,98,102,110,114,116,118,92]:List UInt8).toArray⟩ (l[k].toNat:Int) w
 have hc8:((l[k].toNat:Int).toNat.toUInt8)=l[k]:=Cu
 simp only [hc8] at hI;obtain⟨ix,hix⟩:∃ ix,ix=Lib.indexByte ([97,98,102,110,114,116,118,92]:List UInt8) l[k]:=⟨_,rfl⟩;rw [<- hix] at hI h1;have HK:=hid (Az hix (Az hown (Az hblk hkl)));clear hix hown hblk;have hj:=uT l[k] (by rw [<- HK.out.1];exact h1);rw [<- HK.out.1] at hj;have hw8:qW l[k]=([7,8,12,10,13,9,11,92]:List UInt8)[ix.toNat]?.getD 0:=by unfold qW;rw [<- HK.out.1]
 rw [hw8];clear hw8 h1;rcases hj with rfl|rfl|rfl|rfl|rfl|rfl|rfl|rfl
 all_goals
  go_in
  go_wp2_with fail;go_quiet (fail);go_wp2_with fail;generalize nq=na at *;go_quiet (fail);go_wp2_with (go_at_call 221;refine (hI _).mono ?_;rintro e w1 ⟨rfl,rfl⟩);have hR:Rq c w0 l m ⟨k+1,out,bad⟩ ((w.drewN (na+nq)).setCell (y8 c 1) (i8 ((k:Int)+1))):=Rq.at_ (Rq.drewN H (na+nq)) (k+1);generalize (w.drewN (na+nq)).setCell (y8 c 1) (i8 ((k:Int)+1))=W at *;clear c0 c1 c2 c3 c4 f1 f2 f3 f4;obtain⟨ov,hblk,hown⟩:=hR.blk;obtain⟨c0,c1,c2,c3,c4,f1,f2,f3,f4⟩:=CA hblk;simp only [] at hblk hown;have hclt:=lt_of_block hblk
  go_region_law ((refine step_append_lies _ Db _ _ _ Db (c+1) 5 iU _ 1 1 Tryz.underBs hiU hz0 hz1 hz2 rfl Ct ov out.length (Lib.byteCells out) Db (by first|exact hown.drew.alloc _|exact (hown.alloc _).drew) ⟨W.heap.size,0,none⟩ 1 1 _ Db Db (At (B8 _ _)) Dq Ct Da Cs Cv _ rfl ?_;intro g cap w2 hown2 hgrow2 hat2 hlt2;have hb2:=uE (by exact ((Af _ _ _ hclt).trans hblk)) ((hown.alloc _).drew) hgrow2;obtain⟨_,_,_,k3,_,_,_,z3,_⟩:=CA hb2))
  all_goals
   go_wp2_with fail
   (try simp only [Exit.inBlock,Exit.then]);refine Ca (results_none rfl _ _ _) rfl ?_
   exact⟨rfl,Rq.push (q:=⟨k+1,out,bad⟩) (bs:=[_]) (hR.bel.drew.alloc (Nat.le_of_lt hclt) _) ((Af _ _ _ hclt).trans hblk) ((hown.alloc _).drew) hgrow2 hown2 rfl rfl⟩
end
