import Derived.Test.YtfmpphplbdojbaaGreatDoorShelf
import Derived.Test.YtfmpphplbdojbaaGreatDoorQAF
import Derived.Deep.LoopGhost
import Derived.Deep.WholeRow
import Derived.BigQuiet
import Derived.Lib.Hide
import Derived.WalkKit
import Derived.WalkSpells
import Derived.WalkLawsBesides
import Derived.Deep.QuietTactic
namespace Go.Proofs.YtfmpphplbdojbaaGreatDoor
open Lib(hid)
set_option linter.all false
set_option maxHeartbeats 40000000
set_option maxRecDepth 100000
section
open Go.RowKit
def NC (w:World):Prop:=Lib.Utf8Tabs 1 2 w/\∃ m,w.cell? ⟨0,0,none⟩=some (.int .i64 m)
theorem NC.below {w w':World} (h:NC w) (hb:Below w.heap.size w w'):NC w':=by
 obtain⟨⟨h1,h2⟩,m,h3⟩:=h;exact⟨⟨fun c hc=>aA hb (h1 c hc),fun i hi=>⟨aA hb (h2 i hi).1,aA hb (h2 i hi).2⟩⟩,m,aA hb h3⟩
theorem NC.drew {w:World} (h:NC w):NC w.drew:=h.below (J' _ _).drew
theorem NC.drewN {w:World} (h:NC w) (n:Nat):NC (w.drewN n):=h
end
section
open Go.RowKit
variable {w:World}
def iD:List (Int × Int):=[(65,90),(95,95),(97,122),(170,170),(181,181),(186,186),(192,214),(216,246),(248,705),(880,883),(886,887),(891,893),(902,902),(904,906),(908,908),(910,929),(931,1013),(1024,1153),(1162,1327),(1329,1366),(1377,1415),(1488,1514),(1568,1610),(2308,2361),(3585,3632),(4256,4293),(7680,7957),(12353,12438),(12449,12538),(19968,40959),(44032,55203),(66560,66639),(131072,173791)]
def oB (r:Int):Bool:=iD.any fun p=>decide (p.1<=r)&&decide (r<=p.2)
def digitB (r:Int):Bool:=([48,1632,2406,3664,65296]:List Int).any fun d=>decide (d<=r)&&decide (r<=d+9)
def RI (r:Int):Bool:=r==32||r==9||r==10||r==13
def CP:List (Int × Int)->List Value
 | []=>[]
 | p::l=>.int .i32 p.1::.int .i32 p.2::CP l
def UA:Array Value:=(CP iD).toArray
def DH:Array Value:=#[.int .i32 0,.int .i32 0,.int .i32 0,.int .i32 0,.int .i32 0,.int .i32 0,.int .i32 0,.int .i32 0,.int .i32 0,.int .i32 0,.int .i32 0,.int .i32 0,.int .i32 0,.int .i32 0,.int .i32 0,.int .i32 0,.int .i32 0,.int .i32 0,.int .i32 0,.int .i32 0,.int .i32 0,.int .i32 0,.int .i32 0,.int .i32 0,.int .i32 0,.int .i32 0,.int .i32 0,.int .i32 0,.int .i32 0,.int .i32 0,.int .i32 0,.int .i32 0,.int .i32 0,.int .i32 0,.int .i32 0,.int .i32 0,.int .i32 0,.int .i32 0,.int .i32 0,.int .i32 0,.int .i32 0,.int .i32 0,.int .i32 0,.int .i32 0,.int .i32 0,.int .i32 0,.int .i32 0,.int .i32 0,.int .i32 0,.int .i32 0,.int .i32 0,.int .i32 0,.int .i32 0,.int .i32 0,.int .i32 0,.int .i32 0,.int .i32 0,.int .i32 0,.int .i32 0,.int .i32 0,.int .i32 0,.int .i32 0,.int .i32 0,.int .i32 0,.int .i32 0,.int .i32 0]
theorem Tryz.infoSp:(Tryz.prog.info? 151).map (fun i=>(i.zero,i.size))=some (some (.agg DH),66):=Ci
theorem Tryz.underSp:Tryz.prog.underlying 151=some (.array 33 150):=Ci
theorem fO {P:Program}{ops:Array Oper}{rest:List Oper}{o:Oper}{a:Act}{Q:Exit->Act->World->Prop}{w w2:World}{v:Value} (hg:o.guard=none) (hx:(execOp a.eval o).run P w=.ok (.value v) w2) (hk:wpList P ops Q rest (a.put o.dst v) w2):wpList P ops Q (o::rest) a w :=
 wpList_plain hg fun K hK=>Hj
theorem zP {P:Program}{ops:Array Oper}{rest:List Oper}{o:Oper}{a:Act}{Q:Exit->Act->World->Prop}{w w2:World} (hg:o.guard=none) (hx:(execOp a.eval o).run P w=.ok .skip w2) (hk:wpList P ops Q rest (a.put o.dst undef) w2):wpList P ops Q (o::rest) a w :=
 wpList_plain hg fun K hK=>Hj
theorem yR {P:Program}{o:Oper}{ρ:Operand->Value}{w:World}{t:TypeId}{parts:Array (Nat × Operand)}{cells:Array Value} (ho:o.op=.build t parts) (h:P.built t (parts.map fun (i,x)=>(i,ρ x)).toList=some cells):(execOp ρ o).run P w=.ok (.value (.agg cells)) w:=by
 unfold execOp;simp only [ho,Sem.run_bind,Sem.run_pure,run_build w t _ cells h,Result.andThen]
theorem jR {P:Program}{o:Oper}{ρ:Operand->Value}{w w2:World}{t:TypeId}{p x:Operand} (ho:o.op=.store t p x) (h:(Instr.storeAt t (ρ p) (ρ x)).run P w=.ok () w2):(execOp ρ o).run P w=.ok .skip w2:=by
 unfold execOp;simp only [ho,Sem.run_bind,Sem.run_pure,h,Result.andThen]
theorem uO:Calls Tryz.prog 117 #[] w (fun e w'=>e=.returned (.agg UA)/\w'=w.alloc (.cells UA 151)):=by
 obtain⟨hzv,hi⟩:=zero_of_info Tryz.infoSp;have hst:Sem.run Tryz.prog (Instr.storeAt 151 (.pointer (some ⟨w.heap.size,0,none⟩)) (.agg UA)) (w.alloc (.cells DH 151))=.ok () (w.alloc (.cells UA 151)):=run_storeAt_new w _ DH UA Jd Ct Ci;have hld:Sem.run Tryz.prog (Instr.loadAt 151 (.pointer (some ⟨w.heap.size,0,none⟩))) (w.alloc (.cells UA 151))=.ok (.agg UA) (w.alloc (.cells UA 151)):=run_loadAt_new w _ UA 33 _ Tryz.underSp Jd;go_enter Tryz.func117,Tryz.ntmps117;go_wp2_with (first|(refine fO Ct (yR (t:=151) (cells:=UA) rfl Ci) ?_)|(refine zP Ct (jR (t:=151) rfl hst) ?_));refine bodyPost_ret (v:=.agg UA) ?_ rfl ⟨rfl,rfl⟩;have hlv:=run_loadVar_new (P:=Tryz.prog) w _ UA 33 _ Tryz.underSp Jd;simp only [results,Tryz.results117,Act.put,N',Q',S'];simp [hlv,asAddr]
theorem NO:∀ {l:List (Int × Int)}{i:Nat}{p:Int × Int},l[i]?=some p->(CP l)[i*2]?=some (.int .i32 p.1)/\(CP l)[i*2+1]?=some (.int .i32 p.2)
 | [],i,p,h=>Ha
 | q::l,0,p,h=>by simp at h;subst h;exact⟨rfl,rfl⟩
 | q::l,i+1,p,h=>by
  have:=NO (l:=l) (i:=i) (p:=p) Dc;have e0:(i+1)*2=i*2+1+1:=Cf
  rw [e0];exact this
theorem YQ {w:World}{b i:Nat}{p:Int × Int} (h:w.heap[b]?=some (.cells UA 151 (0,0))) (hp:iD[i]?=some p):w.cell? ⟨b,i*2,none⟩=some (.int .i32 p.1)/\w.cell? ⟨b,i*2+1,none⟩=some (.int .i32 p.2):=by
 obtain⟨h1,h2⟩:=NO hp;have hC:UA=(CP iD).toArray:=rfl;constructor
 ·unfold World.cell?;rw [h,hC];simpa using h1
 ·unfold World.cell?;rw [h,hC];simpa using h2
theorem yQ {r:Int}{i:Nat}{p:Int × Int} (h:iD[i]?=some p) (h1:p.1<=r) (h2:r<=p.2):oB r=true:=by
 unfold oB;rw [List.any_eq_true];exact⟨p,List.mem_of_getElem? h,by simp [h1,h2]⟩
theorem eU {r:Int}{lo:Nat} (h1:∀ i p,i < lo->iD[i]?=some p->p.2 < r) (h2:∀ i p,lo<=i->iD[i]?=some p->r < p.1):oB r=false:=by
 unfold oB;rw [List.any_eq_false];intro p hp;obtain⟨i,hi,rfl⟩:=List.getElem_of_mem hp;have e:iD[i]?=some iD[i]:=M' hi;by_cases hl:i < lo
 ·have:=h1 i _ hl e;simp;omega
 ·have:=h2 i _ Cf e;simp;omega
theorem kM:∀ (i j:Nat) (p q:Int × Int),i < j->iD[i]?=some p->iD[j]?=some q->p.2 < q.1/\q.1<=q.2/\p.1<=p.2:=by
 intro i j p q hij hp hq;have hj:j < 33:=(Ai.1 hq).1;have key:∀ j:Fin 33,∀ i:Fin 33,i < j->(iD[i.val]?.getD (0,0)).2 < (iD[j.val]?.getD (0,0)).1/\(iD[j.val]?.getD (0,0)).1<=(iD[j.val]?.getD (0,0)).2/\(iD[i.val]?.getD (0,0)).1<=(iD[i.val]?.getD (0,0)).2:=Ch
 have:=key ⟨j,hj⟩ ⟨i,Cf⟩ hij;simp only [hp,hq,Option.getD_some] at this;exact this
theorem XA (r:Int):Calls Tryz.prog 77 #[.int .i32 r] w (fun e w'=>e=.returned (.bool (oB r))/\Below w.heap.size w w'):=by
 obtain⟨hzv,hi⟩:=zero_of_info Tryz.infoSp;have hst:Sem.run Tryz.prog (storeCells ⟨w.heap.size+1,0,none⟩ UA.toList) ((w.alloc (.cells UA 151)).alloc (.cells DH 151))=.ok () ((w.alloc (.cells UA 151)).alloc (.cells UA 151)):=by
  have h:=run_storeCells_new (P:=Tryz.prog) (w.alloc (.cells UA 151)) 151 DH UA Jd Ct Ci;rw [World.size_alloc] at h;exact h
 have hBW:=((J' w.heap.size w).alloc (C' _) (Obj.cells UA 151)).alloc Cm (Obj.cells UA 151);have hblk:=heap_alloc_new (w.alloc (.cells UA 151)) (.cells UA 151);go_enter Tryz.func77,Tryz.ntmps77;go_wp2_with fail;refine uO.mono ?_;rintro e w1 ⟨rfl,rfl⟩;rw [World.size_alloc] at hblk;go_upto_region 2 with fail;generalize ((w.alloc (.cells UA 151)).alloc (.cells UA 151))=w2 at *;generalize w.heap.size+1=b at *;clear hst hzv hi;go_wp2_with fail
 go_loopg [4,5] 33 (fun j v4 v5 wr=>∃ lo hi:Nat,v4=.int .i64 (lo:Int)/\v5=.int .i64 (hi:Int)/\hi=lo+j/\hi<=33/\(∀ i p,i < lo->iD[i]?=some p->p.2 < r)/\(∀ i p,hi<=i->iD[i]?=some p->r < p.1)/\wr=w2)
 case atStart=>exact⟨0,33,rfl,rfl,rfl,C' _,fun _ _ h=>Cf,fun i p h hp=>by have:i < 33:=(Ai.1 hp).1;omega,rfl⟩
 case round =>
  obtain⟨lo,hi,rfl,rfl,hj,h33,hlo,hhi,rfl⟩:=hrel;by_cases hlt:lo < hi
  ·have hd:decide (((lo:Nat):Int) < ((hi:Nat):Int))=true:=by simpa using hlt
   obtain⟨mid,hmid⟩:∃ mid,mid=(lo+hi) / 2:=⟨_,rfl⟩;have hw1:IntKind.i64.wrap ((lo:Int)+(hi:Int))=(lo:Int)+(hi:Int):=Cs
   have hqd:((lo:Int)+(hi:Int)).tdiv 2=(mid:Int):=by rw [Int.tdiv_eq_ediv_of_nonneg Cf];omega
   have hw2:IntKind.i64.wrap (mid:Int)=(mid:Int):=Cs
   have hw3:IntKind.i64.wrap ((mid:Int)+1)=(mid:Int)+1:=Cs
   have hm1:(0:Int)<=(mid:Int):=Cf
   have hm2:(mid:Int) < 33:=Cf
   obtain⟨p,hp⟩:∃ p,iD[mid]?=some p:=⟨_,M' (show mid < iD.length by show mid < 33;omega)⟩;obtain⟨c1,c2⟩:=YQ hblk hp;have HL:=hid (And.intro hlo (And.intro hhi (And.intro hj hmid)));have HBW:=hid hBW;clear hlo hhi hj hmid;by_cases h1:r < p.1
   ·have d1:decide (r < p.1)=true:=by simpa using h1
    go_wp2_with fail;obtain⟨hlo,hhi,hj,hmid⟩:=HL.out;go_roundg (mid - lo)
    case measure=>omega
    case rel=>exact⟨lo,mid,rfl,rfl,Cf,Cf,hlo,fun i q hi2 hq=>by
     rcases Nat.eq_or_lt_of_le hi2 with e|e
     ·subst e;rw [hp] at hq;cases hq;exact h1
     ·have:=kM _ _ _ _ e hp hq;omega,rfl⟩
   ·have d1:decide (r < p.1)=false:=by simpa using h1
    by_cases h2:p.2 < r
    ·have d2:decide (p.2 < r)=true:=by simpa using h2
     go_wp2_with fail;obtain⟨hlo,hhi,hj,hmid⟩:=HL.out;go_roundg (hi - (mid+1))
     case measure=>omega
     case rel=>exact⟨mid+1,hi,Cm,rfl,Cf,Cf,fun i q hi2 hq=>by
      rcases Nat.eq_or_lt_of_le (Nat.le_of_lt_succ hi2) with e|e
      ·subst e;rw [hp] at hq;cases hq;exact h2
      ·have:=kM _ _ _ _ e hq hp;omega,hhi,rfl⟩
    ·have d2:decide (p.2 < r)=false:=by simpa using h2
     go_wp2_with fail;go_ret;have ey:=yQ (r:=r) hp Cf Cf;rw [ey];exact⟨rfl,HBW.out⟩
  ·have hd:decide (((lo:Nat):Int) < ((hi:Nat):Int))=false:=by simpa using hlt
   have HJ:=hid hj;clear hj;go_wp2_with fail;go_ret;have en:=eU (r:=r) hlo (fun i q hi2 hq=>hhi i q I6 hq);rw [en];exact⟨rfl,hBW⟩
theorem uC (r:Int):Calls Tryz.prog 236 #[.int .i32 r] w (fun e w'=>e=.returned (.bool (RI r))/\w'=w):=by
 go_enter Tryz.func236,Tryz.ntmps236;go_wp2_with fail
 all_goals go_ret
 all_goals exact⟨by simp [RI, *],rfl⟩
def iJ (l:List UInt8):Bool:=[[98,114,101,97,107],[99,97,115,101],[99,104,97,110],[99,111,110,115,116],[99,111,110,116,105,110,117,101],[100,101,102,97,117,108,116],[100,101,102,101,114],[101,108,115,101],[102,97,108,108,116,104,114,111,117,103,104],[102,111,114],[102,117,110,99],[103,111],[103,111,116,111],[105,102],[105,109,112,111,114,116],[105,110,116,101,114,102,97,99,101],[109,97,112],[112,97,99,107,97,103,101],[114,97,110,103,101],[114,101,116,117,114,110],[115,101,108,101,99,116],[115,116,114,117,99,116],[115,119,105,116,99,104],[116,121,112,101],[118,97,114]].contains l
theorem aH (r:Int):Calls Tryz.prog 78 #[.int .i32 r] w (fun e w'=>e=.returned (.bool (digitB r))/\w'=w):=by
 go_enter Tryz.func78,Tryz.ntmps78;go_wp2_with fail
 go_loopg [6] 5 (fun j v6 wr=>∃ i:Nat,v6=.int .i64 (i:Int)/\i+j=5/\(∀ k d,k < i->([48,1632,2406,3664,65296]:List Int)[k]?=some d->¬ (d<=r/\r<=d+9))/\wr=w)
 case atStart=>exact⟨0,rfl,rfl,fun _ _ h=>Cf,rfl⟩
 case round =>
  obtain⟨i,rfl,hj,hno,rfl⟩:=hrel;have hi:i=0∨i=1∨i=2∨i=3∨i=4∨i=5:=Cf
  have HN:=hid hno;have HJ:=hid hj;clear hno hj;rcases hi with rfl|rfl|rfl|rfl|rfl|rfl
  ·have x0:∀ w:World,(Instr.index 153 (.agg #[.int .i32 48,.int .i32 1632,.int .i32 2406,.int .i32 3664,.int .i32 65296]) (.int .i64 0)).run Tryz.prog w=.ok (.int .i32 48) w:=fun _=>by kernel_rfl
   go_wp2_with fail
   ·go_ret;have e:digitB r=true:=by simp [digitB];omega
    rw [e];exact⟨rfl,rfl⟩
   all_goals
    have hno:=HN.out;have hj:=HJ.out;go_roundg (4)
    case measure=>omega
    case rel=>exact⟨1,Cm,Cf,fun k d hk hd=>by
     rcases Nat.eq_or_lt_of_le (Nat.le_of_lt_succ hk) with e|e
     ·exact Bu
     ·exact hno k d e hd,rfl⟩
  ·have x0:∀ w:World,(Instr.index 153 (.agg #[.int .i32 48,.int .i32 1632,.int .i32 2406,.int .i32 3664,.int .i32 65296]) (.int .i64 1)).run Tryz.prog w=.ok (.int .i32 1632) w:=fun _=>by kernel_rfl
   go_wp2_with fail
   ·go_ret;have e:digitB r=true:=by simp [digitB];omega
    rw [e];exact⟨rfl,rfl⟩
   all_goals
    have hno:=HN.out;have hj:=HJ.out;go_roundg (3)
    case measure=>omega
    case rel=>exact⟨2,Cm,Cf,fun k d hk hd=>by
     rcases Nat.eq_or_lt_of_le (Nat.le_of_lt_succ hk) with e|e
     ·exact Bu
     ·exact hno k d e hd,rfl⟩
  ·have x0:∀ w:World,(Instr.index 153 (.agg #[.int .i32 48,.int .i32 1632,.int .i32 2406,.int .i32 3664,.int .i32 65296]) (.int .i64 2)).run Tryz.prog w=.ok (.int .i32 2406) w:=fun _=>by kernel_rfl
   go_wp2_with fail
   ·go_ret;have e:digitB r=true:=by simp [digitB];omega
    rw [e];exact⟨rfl,rfl⟩
   all_goals
    have hno:=HN.out;have hj:=HJ.out;go_roundg (2)
    case measure=>omega
    case rel=>exact⟨3,Cm,Cf,fun k d hk hd=>by
     rcases Nat.eq_or_lt_of_le (Nat.le_of_lt_succ hk) with e|e
     ·exact Bu
     ·exact hno k d e hd,rfl⟩
  ·have x0:∀ w:World,(Instr.index 153 (.agg #[.int .i32 48,.int .i32 1632,.int .i32 2406,.int .i32 3664,.int .i32 65296]) (.int .i64 3)).run Tryz.prog w=.ok (.int .i32 3664) w:=fun _=>by kernel_rfl
   go_wp2_with fail
   ·go_ret;have e:digitB r=true:=by simp [digitB];omega
    rw [e];exact⟨rfl,rfl⟩
   all_goals
    have hno:=HN.out;have hj:=HJ.out;go_roundg (1)
    case measure=>omega
    case rel=>exact⟨4,Cm,Cf,fun k d hk hd=>by
     rcases Nat.eq_or_lt_of_le (Nat.le_of_lt_succ hk) with e|e
     ·exact Bu
     ·exact hno k d e hd,rfl⟩
  ·have x0:∀ w:World,(Instr.index 153 (.agg #[.int .i32 48,.int .i32 1632,.int .i32 2406,.int .i32 3664,.int .i32 65296]) (.int .i64 4)).run Tryz.prog w=.ok (.int .i32 65296) w:=fun _=>by kernel_rfl
   go_wp2_with fail
   ·go_ret;have e:digitB r=true:=by simp [digitB];omega
    rw [e];exact⟨rfl,rfl⟩
   all_goals
    have hno:=HN.out;have hj:=HJ.out;go_roundg (0)
    case measure=>omega
    case rel=>exact⟨5,Cm,Cf,fun k d hk hd=>by
     rcases Nat.eq_or_lt_of_le (Nat.le_of_lt_succ hk) with e|e
     ·exact Bu
     ·exact hno k d e hd,rfl⟩
  ·go_wp2_with fail;go_ret;have hno:=HN.out;have h0:=hno 0 48 Cf rfl;have h1:=hno 1 1632 Cf rfl;have h2:=hno 2 2406 Cf rfl;have h3:=hno 3 3664 Cf rfl;have h4:=hno 4 65296 Cf rfl;have e:digitB r=false:=by simp [digitB];omega
   rw [e];exact⟨rfl,rfl⟩
theorem PM (l:List UInt8):Calls Tryz.prog 75 #[.string ⟨l.toArray⟩] w (fun e w'=>e=.returned (.bool (iJ l))/\w'=w):=by
 go_enter Tryz.func75,Tryz.ntmps75;go_wp2_with fail
 all_goals first|(rename_i h1 h2;exact absurd (h1.symm.trans h2) Ch)|go_ret
 all_goals exact⟨by simp only [iJ,List.contains_cons,List.contains_nil, *,Bool.false_or,Bool.true_or,Bool.or_true];rfl,rfl⟩
end
namespace Num
open Go.RowKit
def val (n:Int):Int :=
 if 48<=n/\n<=57 then n - 48 else if 97<=n/\n<=102 then n - 97+10 else if 65<=n/\n<=70 then n - 65+10 else 99
theorem dE {k:IntKind}{a b:Int} (h:a=b):Ending.returned (.int k a)=.returned (.int k b):=by rw [h]
theorem nT (n:Int) (h:0<=n) (h2:n<=255) (w:World) :
  Calls Tryz.prog 126 #[.int .u8 n] w fun e w'=>e=.returned (.int .i64 (val n))/\w=w':=by
 go_enter Tryz.func126,Tryz.ntmps126;go_wp2
 all_goals (go_ret;exact⟨dE (by unfold val;omega),rfl⟩)
theorem PI {P:Program}{f:FuncId}{args:Array Value}{w:World}{n:Nat}{v:Value}
  (h:Calls P f args (w.drewN n) fun e w'=>e=.returned v/\w.drewN n=w'):Calls P f args (w.drewN n) fun e w''=>e=.returned v/\∃ m,w''=w.drewN m :=
 h.mono fun _ _ ⟨he,hm⟩=>⟨he,n,hm.symm⟩
theorem tE (b:UInt8) (w:World):Calls Tryz.prog 126 #[.int .u8 b.toNat] w fun e w'=>e=.returned (.int .i64 (val b.toNat))/\w=w' :=
 nT _ Cf (by have:=b.toNat_lt;omega) w
theorem sT (s:ByteArray) (k:Nat) (base:Int) (pn ps pb:Addr) (w:World) (hk:¬ k < s.size) (hs:s.size<=maxLen)
  (hn:w.cell? pn=some (.int .i64 k)) (hps:w.cell? ps=some (.string s)) (hpb:w.cell? pb=some (.int .i64 base)) :
  Calls Tryz.prog 125 #[.pointer (some pn),.pointer (some ps),.pointer (some pb)] w fun e w'=>e=.returned (.bool false)/\∃ n,w'=w.drewN n:=by
 have hd:decide (k < s.size)=false:=by simpa using hk
 go_enter Tryz.func125,Tryz.ntmps125;go_wp2_with fail;go_quiet (fail);go_wp2_with fail;go_ret;exact⟨rfl,nq,rfl⟩
theorem tP (s:ByteArray) (k:Nat) (base:Int) (pn ps pb:Addr) (w:World) (hk:k < s.size) (hs:s.size<=maxLen)
  (hn:w.cell? pn=some (.int .i64 k)) (hps:w.cell? ps=some (.string s)) (hpb:w.cell? pb=some (.int .i64 base)) :
  Calls Tryz.prog 125 #[.pointer (some pn),.pointer (some ps),.pointer (some pb)] w fun e w'=>e=.returned (.bool (decide (val s[k].toNat < base)))/\∃ n,w'=w.drewN n:=by
 have hd:decide (k < s.size)=true:=by simpa using hk
 go_enter Tryz.func125,Tryz.ntmps125;go_wp2_with fail;go_quiet (exact Ce);go_wp2_with fail;go_ret;exact⟨rfl,nq,rfl⟩
def dg (b:Int) (c:UInt8):Bool:=decide (val c.toNat < b)
def QG (b:Int):List UInt8->Nat
 | []=>0
 | u::r=>if dg b u then 1+QG b r else if u==95 then (match r with|d::r'=>if dg b d then 2+QG b r' else 0|[]=>0) else 0
def aC (b:Int):List UInt8->Nat
 | []=>0
 | c::r=>if dg b c then 1+QG b r else 0
def wI (w:World) (a:Addr):Nat:=match w.cell? a with|some (.int _ n)=>n.toNat|_=>0
theorem lF (s:ByteArray) (k:Nat) (h:k < s.size):s.data.toList.drop k=s[k]::s.data.toList.drop (k+1):=by
 rw [An Dc];rfl
theorem GX (b:Int) (h:b<=16):dg b 95=false:=by
 have:val 95=99:=Ch
 unfold dg;simp;show b<=val 95;omega
theorem wY (b:Int) (c:UInt8) (r:List UInt8) (h:dg b c=false):aC b (c::r)=0:=by simp [aC,h]
theorem pW (b:Int) (c:UInt8) (r:List UInt8) (h:dg b c=true):aC b (c::r)=1+QG b r:=by simp [aC,h]
theorem ZL (b:Int) (r:List UInt8) (h:∀ u d r',r=u::d::r'->u=95->dg b d=false) (hb:b<=16):QG b r=aC b r:=by
 match r with
 | []=>rfl
 | [u]=>by_cases e:u=95 <;> simp [QG,aC,e]
 | u::d::r' =>
  by_cases e:u=95
  ·subst e;simp [QG,aC,h 95 d r' rfl rfl,GX b hb]
  ·simp [QG,aC,e]
theorem AX (b:Int) (d:UInt8) (r':List UInt8) (h:dg b d=true) (hb:b<=16):QG b (95::d::r')=1+aC b (d::r'):=by
 simp [QG,aC,h,GX b hb];omega
structure LG (B:Nat) (s:ByteArray) (base k:Int) (w:World):Prop where
 cs:w.heap[B]?=some (.cells #[.string s] 9 (0,0))
 cb:w.heap[B+1]?=some (.cells #[.int .i64 base] 3 (0,0))
 cn:w.heap[B+1+1]?=some (.cells #[.int .i64 k] 3 (0,0))
theorem LG.drewN {B:Nat}{s:ByteArray}{base k:Int}{w:World} (h:LG B s base k w) (n:Nat):LG B s base k (w.drewN n):=⟨h.cs,h.cb,h.cn⟩
theorem LG.set {B:Nat}{s:ByteArray}{base k:Int}{w:World} (h:LG B s base k w) (k':Int):LG B s base k' (w.setCell ⟨B+1+1,0,none⟩ (.int .i64 k')) :=
 ⟨by rw [Ad _ _ _ _ Cn];exact h.cs,by rw [Ad _ _ _ _ Cm];exact h.cb,one_setCell h.cn⟩
theorem LG.num {B:Nat}{s:ByteArray}{base:Int}{k:Nat}{w:World} (h:LG B s base k w):wI w ⟨B+1+1,0,none⟩=k:=by
 unfold wI;rw [cell_of_one h.cn];simp
theorem LG.num' {B:Nat}{s:ByteArray}{base k:Int}{w:World} (h:LG B s base k w):wI w ⟨B+1+1,0,none⟩=k.toNat:=by
 unfold wI;rw [cell_of_one h.cn]
theorem kL {B:Nat}{a w:World} (h:Below B a w) (n:Nat):Below B a (w.drewN n):=⟨h.os,h.tape,h.output,h.size,h.block⟩
theorem lN {w:World}{o:Obj}{k:Nat} (h:w.heap.size=k):(w.alloc o).heap[k]?=some o:=by subst h;exact heap_alloc_new _ _
def Big:Nat:=1125899906842624
theorem aS (s:ByteArray) (base:Int) (w:World) (hs:s.size<=1125899906842624) (hbase:base<=16) :
  Calls Tryz.prog 82 #[.string s,.int .i64 base] w fun e w'=>e=.returned (.int .i64 (aC base s.data.toList))/\Below w.heap.size w w':=by
 have hmx:s.size<=maxLen:=Cu
 have hmf:∀ (fn:Fn) (first cap:Array Value) (w:World),(Instr.makeFunc fn first cap).run Tryz.prog w=.ok (.func fn first cap) w:=fun _ _ _ _=>rfl
 go_enter Tryz.func82,Tryz.ntmps82;go_wp2_with fail
 go_loopw [8] (fun _ wr=>∃ k:Nat,k<=s.size/\LG w.heap.size s base k wr/\k+aC base (s.data.toList.drop k)=aC base s.data.toList/\Below w.heap.size w wr)
  (fun _ wr=>s.size - wI wr ⟨w.heap.size+1+1,0,none⟩)
 case atStart =>
  refine⟨0,Cf,⟨?_,?_,?_⟩,Cm,(((J' _ _).alloc (C' _) _).alloc Cm _).alloc Cn _⟩
  ·exact (Ac _ _ _ Cn).trans ((Ac _ _ _ Cm).trans (heap_alloc_new _ _))
  ·exact (Ac _ _ _ Cm).trans (lN Cm)
  ·exact lN Cm
 case round =>
  obtain⟨k,hk,hr,hrow,hb⟩:=hrel;have h0:=cell_of_one hr.cs;have h1:=cell_of_one hr.cb;have h2:=cell_of_one hr.cn;have f2:=free_of_one hr.cn;have Hr:=hid hrow;have Hn:=hid hr.num;clear hrow;by_cases hlt:k < s.size
  ·by_cases hd:val s[k].toNat < base
   ·have hdd:decide (val s[k].toNat < base)=true:=by simpa using hd
    have Hs:=hid (pW base s[k] (s.data.toList.drop (k+1)) hdd);have Hdr:=hid (lF s k hlt);go_wp2_with (go_at_call 125;refine (tP s k base _ _ _ _ hlt hmx h2 h0 h1).mono ?_;rintro e w' ⟨rfl,nq,rfl⟩);have hr2:=(hr.drewN nq).set (k+1);have hb2:=(kL hb nq).setCell (p:=⟨w.heap.size+1+1,0,none⟩) G8 (.int .i64 (k+1));generalize (wr.drewN nq).setCell ⟨w.heap.size+1+1,0,none⟩ (.int .i64 (k+1))=wx at *;clear h0 h1 h2 f2 hr hb;have h0:=cell_of_one hr2.cs;have h1:=cell_of_one hr2.cb;have h2:=cell_of_one hr2.cn;have f2:=free_of_one hr2.cn;have hnum:wI wx ⟨w.heap.size+1+1,0,none⟩=k+1:=LG.num (k:=k+1) hr2;have Hnum:=hid hnum;clear hnum;have w1:IntKind.i64.wrap ((k:Int)+1)=k+1:=IntWalk.i64_in _ Cf;have w2:IntKind.i64.wrap ((k:Int)+1+1)=k+1+1:=IntWalk.i64_in _ Cf;by_cases h22:k+2 < s.size
    ·have t1:decide ((k:Int)+1+1 < s.size)=true:=by simp;omega
     have i1:((k:Int)+1).toNat=k+1:=Cf
     have i2:((k:Int)+1+1).toNat=k+2:=Cf
     have b0:0<=(k:Int)+1:=Cf
     have b1:(k:Int)+1 < s.size:=Cf
     have c0:0<=(k:Int)+1+1:=Cf
     have c1:(k:Int)+1+1 < s.size:=Cf
     have Hdr2:=hid (lF s (k+1) Cf);have Hdr3:=hid (lF s (k+2) Cf);by_cases hu:s[k+1]=95
     ·have hu':(((s[k+1].toNat:Nat):Int)==95)=true:=by rw [hu];rfl
      by_cases hd2:val s[k+2].toNat < base
      ·have hd2':decide (val s[k+2].toNat < base)=true:=by simpa using hd2
       go_quiet (exact Ce);go_wp2_with fail;have Hfin:Hid ((k+2:Nat)+aC base (s.data.toList.drop (k+2))=aC base s.data.toList):=by
        unfold Hid;rw [<- Hr.out,Hdr.out,Hs.out,Hdr2.out,hu,Hdr3.out,AX _ _ _ hd2' hbase];omega
       go_roundw
       case rel=>exact⟨k+2,Cf,(hr2.drewN nq).set _,Hfin.out,(kL hb2 nq).setCell G8 _⟩
       case measure=>rw [Hn.out];show s.size - wI _ _ < _;rw [LG.num' ((hr2.drewN nq).set ((k:Int)+1+1))];omega
      ·have hd2':decide (val s[k+2].toNat < base)=false:=by simpa using hd2
       go_quiet (exact Ce);go_wp2_with fail;have Hfin:Hid ((k+1:Nat)+aC base (s.data.toList.drop (k+1))=aC base s.data.toList):=by
        unfold Hid;rw [<- Hr.out,Hdr.out,Hs.out,ZL]
        ·exact Cf
        ·intro u d r' e _;rw [Hdr2.out,Hdr3.out] at e;injection e with _ e;injection e with e _;rw [<- e];exact hd2'
        ·exact hbase
       go_roundw
       case rel=>exact⟨k+1,Cf,hr2.drewN nq,Hfin.out,kL hb2 nq⟩
       case measure=>rw [Hn.out];show s.size - wI wx _ < _;rw [Hnum.out];omega
     ·have hu':(((s[k+1].toNat:Nat):Int)==95)=false:=by
       rw [beq_eq_false_iff_ne];intro e;exact hu (Av.1 (by show _=95;omega))
      go_quiet (fail);go_wp2_with fail;have Hfin:Hid ((k+1:Nat)+aC base (s.data.toList.drop (k+1))=aC base s.data.toList):=by
       unfold Hid;rw [<- Hr.out,Hdr.out,Hs.out,ZL]
       ·exact Cf
       ·intro u d r' e e2;rw [Hdr2.out] at e;injection e with e _;exact absurd (e.trans e2) hu
       ·exact hbase
      go_roundw
      case rel=>exact⟨k+1,Cf,hr2.drewN nq,Hfin.out,kL hb2 nq⟩
      case measure=>rw [Hn.out];show s.size - wI wx _ < _;rw [Hnum.out];omega
    ·have t1:decide ((k:Int)+1+1 < s.size)=false:=by simp;omega
     have Hfin:Hid ((k+1:Nat)+aC base (s.data.toList.drop (k+1))=aC base s.data.toList):=by
      unfold Hid;rw [<- Hr.out,Hdr.out,Hs.out,ZL]
      ·exact Cf
      ·intro u d r' e;have:=congrArg List.length e;simp at this;omega
      ·exact hbase
     go_quiet (fail);go_wp2_with fail;go_roundw
     case rel=>exact⟨k+1,Cf,hr2.drewN nq,Hfin.out,kL hb2 nq⟩
     case measure=>rw [Hn.out];show s.size - wI wx _ < _;rw [Hnum.out];omega
   ·have hdd:decide (val s[k].toNat < base)=false:=by simpa using hd
    go_wp2_with (go_at_call 125;refine (tP s k base _ _ _ _ hlt hmx h2 h0 h1).mono ?_;rintro e w' ⟨rfl,nq,rfl⟩);go_ret;refine⟨dE ?_,hb.os,hb.tape,hb.output,hb.size,hb.block⟩;rw [<- Hr.out,lF s k hlt,wY _ _ _ hdd];simp
  ·go_wp2_with (go_at_call 125;refine (sT s k base _ _ _ _ hlt hmx h2 h0 h1).mono ?_;rintro e w' ⟨rfl,nq,rfl⟩);go_ret;refine⟨dE ?_,hb.os,hb.tape,hb.output,hb.size,hb.block⟩;rw [<- Hr.out,List.drop_eq_nil_of_le Cn];simp [aC]
end Num
namespace Num
open Go.RowKit
theorem TG {a b:Value} (h:a=b):Ending.returned a=.returned b:=by rw [h]
theorem mI (l p:List UInt8):(Lib.trimPrefix l p).length<=l.length:=by
 unfold Lib.trimPrefix;split <;> simp
theorem VK (l:List UInt8):(ByteArray.mk l.toArray).size=l.length:=Dx
theorem BU (s:ByteArray) (p:List UInt8) (N:Nat) (h:s.size<=N):(ByteArray.mk (Lib.trimPrefix s.data.toList p).toArray).size<=N:=by
 rw [VK];have:=mI s.data.toList p;rw [<- Lib.size_eq] at this;omega
def dF (b:Int) (l:List UInt8):Int :=
 if Lib.trimPrefix l [95]≠[]/\aC b (Lib.trimPrefix l [95])=(Lib.trimPrefix l [95]).length then 3 else 0
theorem UT (s:ByteArray) (base:Int) (w:World) (hs:s.size<=1125899906842624) (hbase:base<=16) :
  Calls Tryz.prog 121 #[.string s,.int .i64 base] w fun e w'=>e=.returned (.int .u8 (dF base s.data.toList))/\Below w.heap.size w w':=by
 go_enter Tryz.func121,Tryz.ntmps121;go_wp2_with (first|(go_at_call 172;refine (Tryz.strings_TrimPrefix _ _ _).mono ?_;rintro e w' ⟨rfl,hw⟩;obtain rfl:=hw.symm)|(go_at_call 82;refine (aS _ _ _ (BU _ _ _ hs) hbase).mono ?_;rintro e w1 ⟨rfl,hb⟩))
 all_goals go_ret
 all_goals (refine⟨dE ?_,by first|assumption|exact J' _ _⟩;simp_all [dF] <;> omega)
@[simp] theorem get_mk (l:List UInt8) (i:Nat) (h:i < (ByteArray.mk l.toArray).size):(ByteArray.mk l.toArray)[i]'h=l[i]?.getD 0:=by
 have h':i < l.length:=Ek
 rw [M' h'];rfl
attribute [simp] ByteArray.extract_mk
theorem dA {w w1 w2:World} (h:Below w.heap.size w w1) (k:Below w1.heap.size w1 w2):Below w.heap.size w w2:=h.trans (k.mono h.size)
theorem pO (b:Int):∀ l,QG b l<=l.length
 | []=>by simp [QG]
 | u::r=>by
  have h1:=pO b r;unfold QG;split
  ·exact Cn
  ·split
   ·split
    ·rename_i d r';have h2:=pO b r';split <;> simp;omega
    ·exact Cm
   ·exact Cm
theorem qU (b:Int) (l:List UInt8):aC b l<=l.length:=by
 cases l with
 | nil=>simp [aC]
 | cons c r=>have:=pO b r;unfold aC;simp only [Ab];split <;> omega
theorem jS (b:Int):aC b []=0:=rfl
theorem cN (l:List UInt8) (base:Int) (w:World) (hs:l.length<=1125899906842624) (hbase:base<=16) :
  Calls Tryz.prog 82 #[.string ⟨l.toArray⟩,.int .i64 base] w fun e w'=>e=.returned (.int .i64 (aC base l))/\aC base l<=l.length/\Below w.heap.size w w':=by
 have:=aS ⟨l.toArray⟩ base w (by rw [VK];exact hs) hbase;exact this.mono fun e w' ⟨h,h2⟩=>⟨Dc,qU _ _,h2⟩
theorem ixb (l:List UInt8) (c:UInt8) (w:World) :
  Calls Tryz.prog 118 #[.string ⟨l.toArray⟩,.int .u8 c.toNat] w fun e w'=>e=.returned (.int .i64 (Lib.indexByte l c))/\w=w':=by
 have:=(Tryz.strings_IndexByte ⟨l.toArray⟩ c.toNat w).mono (R':=fun e w'=>e=.returned (.int .i64 (Lib.indexByte l c))/\w=w') fun e w' ⟨h,h2⟩=>⟨Dc,h2.symm⟩
 exact this
def ES:List UInt8->Nat
 | []=>1
 | d::_=>if (d.toNat:Int)=43∨(d.toNat:Int)=45 then 2 else 1
def QF (ls l:List UInt8):Nat :=
 match l with
 | []=>0
 | c::r=>if Lib.indexByte ls c < 0 then 0 else
   let n:=ES r
   if 0 < aC 10 (l.drop n) then n+aC 10 (l.drop n) else 0
theorem RT (l ls:List UInt8) (w:World) (hs:l.length<=1125899906842624) :
  Calls Tryz.prog 174 #[.string ⟨l.toArray⟩,.string ⟨ls.toArray⟩] w fun e w'=>e=.returned (.int .i64 (QF ls l))/\Below w.heap.size w w':=by
 have hb:=J' w.heap.size w
 match l,hs with
 | [],hs =>
  go_enter Tryz.func174,Tryz.ntmps174;go_wp2_with fail;go_ret;exact⟨rfl,hb⟩
 | [c],hs =>
  simp only [Ab,Aj] at hs;go_enter Tryz.func174,Tryz.ntmps174;go_wp2_with (first|(go_at_call 118;refine (ixb _ _ _).mono ?_;rintro e w' ⟨rfl,rfl⟩)|(go_at_call 82;refine (cN _ _ _ Cm Cf).mono ?_;rintro e w1 ⟨rfl,hle,hn⟩;(try simp only [Ab] at hle);replace hb:=dA hb hn))
  all_goals go_ret
  all_goals (refine⟨dE ?_,hb⟩;simp only [QF,ES,List.drop_succ_cons,List.drop_zero,jS] at *;(repeat' split) <;> first|omega|(simp_all <;> omega))
 | c::d::r,hs =>
  simp only [Ab] at hs;go_enter Tryz.func174,Tryz.ntmps174;go_wp2_with (first|(go_at_call 118;refine (ixb _ _ _).mono ?_;rintro e w' ⟨rfl,rfl⟩)|(go_at_call 82;refine (cN _ _ _ C3 Cf).mono ?_;rintro e w1 ⟨rfl,hle,hn⟩;(try simp only [Ab] at hle);replace hb:=dA hb hn))
  all_goals go_ret
  all_goals (refine⟨dE ?_,hb⟩;simp only [QF,ES,List.drop_succ_cons,List.drop_zero,jS] at *;(repeat' split) <;> first|omega|(simp_all <;> omega))
@[simp] theorem take_drop_len (l:List UInt8) (k:Nat):List.take (l.length - k) (List.drop k l)=l.drop k:=Ar Cm
@[simp] theorem take_tail_len (l:List UInt8):List.take (l.length - 1) l.tail=l.tail:=Ar Cm
abbrev bat (l:List UInt8) (n:Nat):Int:=((l[n]?.getD 0).toNat:Int)
theorem QK (l:List UInt8) (base:Int) (w:World) (hs:l.length<=1125899906842624) (hbase:base<=16) :
  Calls Tryz.prog 121 #[.string ⟨l.toArray⟩,.int .i64 base] w fun e w'=>e=.returned (.int .u8 (dF base l))/\Below w.heap.size w w':=by
 have:=UT ⟨l.toArray⟩ base w (by rw [VK];exact hs) hbase;simpa using this
theorem zU (ls l:List UInt8):QF ls l<=l.length:=by
 unfold QF;split
 ·exact Cm
 ·rename_i c r;have:=qU 10 ((c::r).drop (ES r));simp only [V'] at this;split
  ·exact Cm
  ·simp only [];split <;> omega
theorem bO (l ls:List UInt8) (w:World) (hs:l.length<=1125899906842624) :
  Calls Tryz.prog 174 #[.string ⟨l.toArray⟩,.string ⟨ls.toArray⟩] w fun e w'=>e=.returned (.int .i64 (QF ls l))/\QF ls l<=l.length/\Below w.heap.size w w' :=
 (RT l ls w hs).mono fun e w' ⟨h,h2⟩=>⟨h,zU _ _,h2⟩
def WW (ls l:List UInt8) (n k:Nat):Int :=
 if 0 < n+k/\0 < k+QF ls (l.drop (n+k))/\n+k+QF ls (l.drop (n+k))=l.length then 4 else 0
def tO (l:List UInt8):Int :=
 if aC 10 l=l.length/\0 < aC 10 l then (if bat l 0≠48∨aC 10 l=1 then 3 else dF 8 l.tail)
 else if aC 10 l < l.length/\bat l (aC 10 l)=46 then
  (if aC 10 l+aC 10 (l.drop (aC 10 l+1))=0 then 0 else WW [101,69] l (aC 10 l) (aC 10 (l.drop (aC 10 l+1))+1))
 else WW [101,69] l (aC 10 l) 0
theorem xO (l:List UInt8) (w:World) (hs:l.length<=1125899906842624) :
  Calls Tryz.prog 123 #[.string ⟨l.toArray⟩] w fun e w'=>e=.returned (.int .u8 (tO l))/\Below w.heap.size w w':=by
 have hb:=J' w.heap.size w;by_cases hl:l=[]
 ·subst hl;go_enter Tryz.func123,Tryz.ntmps123;go_wp2_with (first
   | (go_at_call 174;refine (bO [] _ _ Cm).mono ?_;rintro e w1 ⟨rfl,hle,hn⟩;replace hb:=dA hb hn)
   | (go_at_call 82;refine (cN [] _ _ Cm Cf).mono ?_;rintro e w1 ⟨rfl,hle,hn⟩;replace hb:=dA hb hn))
  all_goals go_ret
  all_goals exact⟨rfl,hb⟩
 have h0:0 < l.length:=List.length_pos_iff.2 hl;go_enter Tryz.func123,Tryz.ntmps123;go_wp2_with (first
  | (go_at_call 121;refine (QK _ _ _ C3 Cf).mono ?_;rintro e w1 ⟨rfl,hn⟩;replace hb:=dA hb hn)
  | (go_at_call 174;refine (bO _ _ _ C3).mono ?_;rintro e w1 ⟨rfl,hle,hn⟩;(try simp only [Ab,V'] at hle);replace hb:=dA hb hn)
  | (go_at_call 82;refine (cN _ _ _ C3 Cf).mono ?_;rintro e w1 ⟨rfl,hle,hn⟩;(try simp only [Ab,V'] at hle);replace hb:=dA hb hn))
 all_goals go_ret
 all_goals refine⟨dE ?_,hb⟩
 all_goals simp only [tO,WW,bat,Nat.add_zero,Nat.zero_add,beq_iff_eq,beq_eq_false_iff_ne] at *
 all_goals clear hb hn
 all_goals (repeat' split)
 all_goals first|omega|(simp_all;done)|(simp_all;omega)
theorem mY (l p:List UInt8) (w:World) :
  Calls Tryz.prog 172 #[.string ⟨l.toArray⟩,.string ⟨p.toArray⟩] w fun e w'=>e=.returned (.string ⟨(Lib.trimPrefix l p).toArray⟩)/\(Lib.trimPrefix l p).length<=l.length/\w=w' :=
 (Tryz.strings_TrimPrefix ⟨l.toArray⟩ ⟨p.toArray⟩ w).mono fun e w' ⟨h,h2⟩=>⟨Dc,mI _ _,h2.symm⟩
theorem gN (l p:List UInt8) (w:World) :
  Calls Tryz.prog 173 #[.string ⟨l.toArray⟩,.string ⟨p.toArray⟩] w fun e w'=>e=.returned (.bool (Lib.hasPrefix l p))/\w=w' :=
 (Tryz.strings_HasPrefix ⟨l.toArray⟩ ⟨p.toArray⟩ w).mono fun e w' ⟨h,h2⟩=>⟨Dc,h2.symm⟩
theorem MX (l p:List UInt8) (w:World) (hs:l.length<=1125899906842624) :
  Calls Tryz.prog 81 #[.string ⟨l.toArray⟩,.string ⟨p.toArray⟩] w fun e w'=>e=.returned (.bool (Lib.hasSuffix l p))/\w=w' :=
 (Tryz.strings_HasSuffix ⟨l.toArray⟩ ⟨p.toArray⟩ w (by rw [VK];omega)).mono fun e w' ⟨h,h2⟩=>⟨Dc,h2.symm⟩
def yW (t:List UInt8) (n k:Nat):Int :=
 if 0 < QF [112,80] (t.drop (n+k))/\n+k+QF [112,80] (t.drop (n+k))=t.length then 4 else 0
def zY (u:Bool) (t:List UInt8):Int :=
 if aC 16 t=0/\u=true then 0
 else if aC 16 t < t.length/\bat t (aC 16 t)=46 then
  (if aC 16 t+aC 16 (t.drop (aC 16 t+1))=0 then 0 else yW t (aC 16 t) (aC 16 (t.drop (aC 16 t+1))+1))
 else if aC 16 t=0 then 0 else yW t (aC 16 t) 0
def SP (l:List UInt8):Int:=if dF 16 l≠0 then 3 else zY (Lib.hasPrefix l [95]) (Lib.trimPrefix l [95])
theorem SW (l:List UInt8) (w:World) (hs:l.length<=1125899906842624) :
  Calls Tryz.prog 122 #[.string ⟨l.toArray⟩] w fun e w'=>e=.returned (.int .u8 (SP l))/\Below w.heap.size w w':=by
 have hb:=J' w.heap.size w;by_cases h3:dF 16 l=0
 ·have h3':(dF 16 l != 0)=false:=by simp [h3]
  have H3:=hid h3;clear h3;go_enter Tryz.func122,Tryz.ntmps122;go_wp2_with (first
   | (go_at_call 121;refine (QK _ _ _ C3 Cf).mono ?_;rintro e w1 ⟨rfl,hn⟩;replace hb:=dA hb hn)
   | (go_at_call 172;refine (mY _ _ _).mono ?_;rintro e w1 ⟨rfl,hle,rfl⟩)
   | (go_at_call 173;refine (gN _ _ _).mono ?_;rintro e w1 ⟨rfl,rfl⟩)
   | (go_at_call 174;refine (bO _ _ _ C3).mono ?_;rintro e w1 ⟨rfl,hle,hn⟩;(try simp only [Ab,V',List.length_tail] at hle);replace hb:=dA hb hn)
   | (go_at_call 82;refine (cN _ _ _ C3 Cf).mono ?_;rintro e w1 ⟨rfl,hle,hn⟩;(try simp only [Ab,V',List.length_tail] at hle);replace hb:=dA hb hn))
  all_goals go_ret
  all_goals refine⟨dE ?_,hb⟩
  all_goals (have h3:=H3.out;clear H3 hb hn)
  all_goals simp only [SP,h3,ne_eq,not_true_eq_false,if_false]
  all_goals (generalize Lib.trimPrefix l [95]=t at *;generalize Lib.hasPrefix l [95]=u at *)
  all_goals (simp only [zY,yW,bat,Nat.add_zero,Nat.zero_add,beq_iff_eq,beq_eq_false_iff_ne] at *)
  all_goals (repeat' split)
  all_goals first|omega|(simp_all;done)|(simp_all;omega)
 ·have h3':(dF 16 l != 0)=true:=by simp [h3]
  have H3:=hid h3;clear h3;go_enter Tryz.func122,Tryz.ntmps122;go_wp2_with (first
   | (go_at_call 121;refine (QK _ _ _ C3 Cf).mono ?_;rintro e w1 ⟨rfl,hn⟩;replace hb:=dA hb hn))
  go_ret;exact⟨dE (by unfold SP;rw [if_pos H3.out]),hb⟩
end Num
