import Derived.WalkMore
import Derived.Test.YtfmpphplbdojbaaGreatDoorQAF
import Derived.Test.YtfmpphplbdojbaaGreatDoorQBQ
import Derived.Laws.EntriesVeiled
import Derived.Test.YtfmpphplbdojbaaGreatDoorQBL
import Derived.Deep.LoopGhost
namespace Go.Proofs.YtfmpphplbdojbaaGreatDoor
open Lib(hid)
set_option linter.all false
set_option maxHeartbeats 40000000
set_option maxRecDepth 100000
section
open Go.RowKit
variable {w:World}
theorem mD {b:Nat}{w w':World}{p:Addr}{v:Value} (hb:Below b w w') (hp:p.block < b) (h:w.cell? p=some v):w'.cell? p=some v:=by rw [hb.cell hp];exact h
theorem jX (x o y u c1 c2:Nat) (a:List Grd.Pt) (hl:a.length≤1099511627776) (hx:x < w.heap.size) (hy:y < w.heap.size)
  (ha:∀ j p,a[j]?=some p→w.cell? ⟨x,o+j*3,none⟩=some (.int .u8 (p.k.toNat:Int))∧w.cell? ⟨x,o+j*3+1,none⟩=some (.int .i64 p.n)∧w.cell? ⟨x,o+j*3+2,none⟩=some (.string ⟨p.w.toArray⟩))
  (hb:∀ j p,a[j]?=some p→w.cell? ⟨y,u+j*3,none⟩=some (.int .u8 (p.k.toNat:Int))∧w.cell? ⟨y,u+j*3+1,none⟩=some (.int .i64 p.n)∧w.cell? ⟨y,u+j*3+2,none⟩=some (.string ⟨p.w.toArray⟩)) :
  Calls Tryz.prog 18 #[.slice (some ⟨x,o,none⟩) a.length c1,.slice (some ⟨y,u,none⟩) a.length c2] w fun e w'=>e=.returned (.bool true)∧Below w.heap.size w w':=by
 have HA:=hid (And.intro ha hb);clear ha hb;go_enter Tryz.func18,Tryz.ntmps18;go_wp2_with fail
 go_loopw [5] (fun v w'=>∃ i:Nat,v=.int .i64 (i:Int)∧i≤a.length∧Below w.heap.size w w') (fun v _=>((a.length:Int) - intOf v).toNat)
 case atStart=>exact⟨0,rfl,by omega,Below.refl _ _⟩
 case round =>
  obtain⟨i,rfl,hi,hbel⟩:=hrel;by_cases hlt:i < a.length
  ·obtain⟨p0,p1,p2⟩:=HA.out.1 i a[i] (List.getElem?_eq_getElem hlt);obtain⟨q0,q1,q2⟩:=HA.out.2 i a[i] (List.getElem?_eq_getElem hlt);have p0:=mD hbel hx p0;have p1:=mD hbel hx p1;have p2:=mD hbel hx p2;have q0:=mD hbel hy q0;have q1:=mD hbel hy q1;have q2:=mD hbel hy q2;generalize a[i]=p at *;have i0:(0:Int)≤(i:Int):=by omega
   have i1:(i:Int) < (a.length:Int):=by omega
   obtain⟨k1,n1,s1⟩:=p;simp only [] at p0 p1 p2 q0 q1 q2;go_wp2_with fail
   go_region_held3 (fun w'=>w'.cell? ⟨x,o+i*3,none⟩=some (.int .u8 (k1.toNat:Int))∧w'.cell? ⟨x,o+i*3+1,none⟩=some (.int .i64 n1)∧w'.cell? ⟨x,o+i*3+2,none⟩=some (.string ⟨s1.toArray⟩)∧w'.cell? ⟨y,u+i*3,none⟩=some (.int .u8 (k1.toNat:Int))∧w'.cell? ⟨y,u+i*3+1,none⟩=some (.int .i64 n1)∧w'.cell? ⟨y,u+i*3+2,none⟩=some (.string ⟨s1.toArray⟩)) (go_keep) (first|fail)
   go_wp2_with fail;go_roundw
   case rel=>exact⟨i+1,by go_num,by omega,hbel.drew⟩
   case measure=>simp only [intOf];first|omega|(go_num;omega)|go_num
  ·have:i=a.length:=by omega
   subst this;go_wp2_with fail;go_ret;exact⟨rfl,hbel⟩
theorem EY (xa ya:Option Addr) (c1 c2:Nat) (a:List Grd.Pt) (hl:a.length≤1099511627776) (ha:Grd.tB w xa a) (hb:Grd.tB w ya a) :
  Calls Tryz.prog 18 #[.slice xa a.length c1,.slice ya a.length c2] w fun e w'=>e=.returned (.bool true)∧Below w.heap.size w w':=by
 rcases ha with h|⟨b,off,rfl,hlt,hc⟩
 ·subst h;go_enter Tryz.func18,Tryz.ntmps18;go_wp2_with fail;refine wp_loop_rounds 1 ?_;rw [rounds_succ];go_wp2_with fail;go_ret;exact⟨rfl,Below.refl _ _⟩
 ·rcases hb with h|⟨b2,off2,rfl,hlt2,hc2⟩
  ·subst h;go_enter Tryz.func18,Tryz.ntmps18;go_wp2_with fail;refine wp_loop_rounds 1 ?_;rw [rounds_succ];go_wp2_with fail;go_ret;exact⟨rfl,Below.refl _ _⟩
  ·exact jX b off b2 off2 c1 c2 a hl hlt hlt2 hc hc2
def NX (n:UInt8):UInt8:=1+n % 4
theorem GY (n:UInt8):((NX n).toNat:Int)=1+(n.toNat:Int) % 4:=by
 unfold NX;rw [UInt8.toNat_add,UInt8.toNat_mod];rw [show (1:UInt8).toNat=1 from rfl,show (4:UInt8).toNat=4 from rfl];omega
end
section
def zI (l:List Pt3):List Int:=l.map fun p=>(p.kids:Int)
theorem WN (a b:List Pt3):zI (a++b)=zI a++zI b:=List.map_append ..
mutual
theorem XM (E:Env):∀ (t:Tr) (r:List Int) (i:Nat) (o st:List Nat),Grd.VB r (i+cnt t)=some (o,st)→∃ o',Grd.VB (zI (parts E t)++r) i=some (o',i::st)
 | .mk k wd f t ks,r,i,o,st,h=>by
  obtain⟨o',st',h1,h2⟩:=eL E ks r (i+1) o st (by rw [show i+1+EB ks=i+cnt (.mk k wd f t ks) by simp only [cnt];omega];exact h);have e0:zI (parts E (.mk k wd f t ks))=(ks.length:Int)::zI (kC E ks):=by rw [parts];rfl
  rw [e0,List.cons_append,Grd.VB,h1];simp only [];have e:(st'++st).drop ((ks.length:Int)).toNat=st:=by rw [Int.toNat_natCast,← h2,List.drop_left]
  rw [if_pos ⟨by omega,by rw [List.length_append];omega⟩,e];exact⟨_,rfl⟩
theorem eL (E:Env):∀ (ts:List Tr) (r:List Int) (i:Nat) (o st:List Nat),Grd.VB r (i+EB ts)=some (o,st)→∃ o' st',Grd.VB (zI (kC E ts)++r) i=some (o',st'++st)∧st'.length=ts.length
 | [],r,i,o,st,h=>⟨o,[],h,rfl⟩
 | t::ts,r,i,o,st,h=>by
  obtain⟨o1,st1,h1,h2⟩:=eL E ts r (i+cnt t) o st (by rw [Nat.add_assoc];exact h);obtain⟨o2,h3⟩:=XM E t (zI (kC E ts)++r) i o1 (st1++st) h1;refine⟨o2,i::st1,?_,by simp [h2]⟩;rw [kC,WN,List.append_assoc];exact h3
end
theorem VR (E:Env) (t:Tr):Grd.DG (zI (parts E t))=true:=by
 obtain⟨o,h⟩:=XM E t [] 0 [] [] rfl;rw [List.append_nil] at h;unfold Grd.DG;rw [h]
 rfl
end
section
open Go.RowKit
variable {w w':World}
mutual
theorem OI (s:List UInt8) (l:List Tk) (p p':List Int):∀ t:Tr,parts ⟨s,l,p⟩ t=parts ⟨s,l,p'⟩ t
 | .mk k wd f t ks=>by
  have h:=yK s l p p' ks;simp only [parts,h]
  rfl
theorem yK (s:List UInt8) (l:List Tk) (p p':List Int):∀ ts:List Tr,kC ⟨s,l,p⟩ ts=kC ⟨s,l,p'⟩ ts
 | []=>rfl
 | t::ts=>by simp only [kC,OI s l p p' t,yK s l p p' ts]
end
theorem kY (w:World) (o1 o2 o3 o4:Obj):((((w.alloc o1).alloc o2).alloc o3).alloc o4).heap[w.heap.size]?=some o1∧((((w.alloc o1).alloc o2).alloc o3).alloc o4).heap[w.heap.size+1]?=some o2∧((((w.alloc o1).alloc o2).alloc o3).alloc o4).heap[w.heap.size+1+1]?=some o3∧((((w.alloc o1).alloc o2).alloc o3).alloc o4).heap[w.heap.size+1+1+1]?=some o4 ∧
  Below w.heap.size w ((((w.alloc o1).alloc o2).alloc o3).alloc o4)∧((((w.alloc o1).alloc o2).alloc o3).alloc o4).heap.size=w.heap.size+1+1+1+1:=by
 obtain⟨h1,h2,h3,hb,hs⟩:=gV w o1 o2 o3;generalize ((w.alloc o1).alloc o2).alloc o3=w3 at *;have h4:=heap_alloc_new w3 o4;have b4:=(Below.refl w3.heap.size w3).alloc (Nat.le_refl _) o4;rw [hs] at h4;exact⟨(b4.block _ (by omega)).trans h1,(b4.block _ (by omega)).trans h2,(b4.block _ (by omega)).trans h3,h4,hb.alloc (by omega) o4,by simp [hs]⟩
theorem MO {N:List UInt8→uH}{goal:UInt8}{s:List UInt8}{l:List Tk}{t:Tr} (h:tD N goal s=.ok l t):∃ p m,N s=.ok l p∧FD ⟨s,l,p⟩ goal=.ok t m:=by
 unfold tD at h;split at h
 ·cases h
 ·split at h
  ·cases h
  ·rename_i l2 p hN;split at h
   ·rename_i t2 m hT;cases h;exact⟨p,m,hN,hT⟩
   ·cases h
   ·cases h
inductive eS where
 | bad (err at':Nat):eS
 | ok (l:List Pt3):eS
def lM (N:List UInt8→uH) (goal:UInt8) (s:List UInt8):eS :=
 match tD N goal s with
 | .bad e a=>.bad e a
 | .ok l t=>.ok (parts ⟨s,l,[]⟩ t)
def rW (r:eS) (w:World) (e:Ending) (w':World):Prop :=
 match r with
 | .bad err a=>e=.returned (.tuple #[.slice none 0 0,qA err a])∧Below w.heap.size w w'
 | .ok l=>∃ pv,e=.returned (.tuple #[pv,qA 0 0])∧w'.ownsRow w.heap.size 46 3 pv l.length (CF l)∧Below w.heap.size w w'
theorem TS {N:List UInt8→uH} (HN:LJ N) (goal:UInt8) (s:List UInt8) (w:World) (hw:NC w) :
  Calls Tryz.prog 17 #[.int .u8 (goal.toNat:Int),.string ⟨s.toArray⟩] w (rW (lM N goal s) w):=by
 have HNN:=hid HN;clear HN;have b3:=heap_alloc_new w (.cells #[.string ⟨s.toArray⟩] 9);have b5:=heap_alloc_new (w.alloc (.cells #[.string ⟨s.toArray⟩] 9)) (.cells #[.int .i64 0,.int .i64 0] 35);have b3':=(((Below.refl (w.alloc (.cells #[.string ⟨s.toArray⟩] 9)).heap.size _).alloc (Nat.le_refl _) (Obj.cells #[.int .i64 0,.int .i64 0] 35)).block w.heap.size (by simp)).trans b3;have hB:=((Below.refl w.heap.size w).alloc (Nat.le_refl _) (Obj.cells #[.string ⟨s.toArray⟩] 9)).alloc (by simp) (Obj.cells #[.int .i64 0,.int .i64 0] 35);have HW:=hid (hw.below hB);clear hw;have hsz:((w.alloc (.cells #[.string ⟨s.toArray⟩] 9)).alloc (.cells #[.int .i64 0,.int .i64 0] 35)).heap.size=w.heap.size+1+1:=by simp
 rw [World.size_alloc] at b5;clear b3;go_enter Tryz.func17,Tryz.ntmps17;go_upto_region 1 with fail;generalize ((w.alloc (.cells #[.string ⟨s.toArray⟩] 9)).alloc (.cells #[.int .i64 0,.int .i64 0] 35))=wA at *;have c3:wA.cell? ⟨w.heap.size,0,none⟩=some (.string ⟨s.toArray⟩):=by simp [World.cell?,b3']
 go_wp2_with fail;refine (xT HNN.out goal s wA HW.out).mono ?_;intro e w1 hA;cases hr:tD N goal s with
 | bad er a =>
  rw [hr] at hA;obtain⟨va,vn,vc,rfl,hb⟩:=hA;have hne:((er:Nat):Int)≠0:=by have:=QP HNN.out hr;omega
  have hne2:(((er:Nat):Int)==0)=false:=by simpa using hne
  have k5:=(hb.block _ (by omega)).trans b5;have hs1:=hb.size;unfold qA;have hT:lM N goal s=.bad er a:=by unfold lM;rw [hr]
  have HTT:=hid hT;clear hT;go_upto_region 2 with fail;have g8:=heap_alloc_new (w1.alloc (.cells #[.slice va vn vc] 50)) (.cells #[.int .i64 (er:Int),.int .i64 (a:Int)] 35);have hb2:=((Below.refl w1.heap.size w1).alloc (Nat.le_refl _) (Obj.cells #[.slice va vn vc] 50)).alloc (by simp) (Obj.cells #[.int .i64 (er:Int),.int .i64 (a:Int)] 35);rw [World.size_alloc] at g8;have g5:=(hb2.block _ (by omega)).trans k5;have HB2:=hB.trans ((hb.mono (show w.heap.size≤wA.heap.size by omega)).trans (hb2.mono (show w.heap.size≤w1.heap.size by omega)));generalize ((w1.alloc (.cells #[.slice va vn vc] 50)).alloc (.cells #[.int .i64 (er:Int),.int .i64 (a:Int)] 35))=w2 at *;have hn1:w1.heap.size+1≠w.heap.size+1:=by omega
  obtain⟨d1,d2,d3,d4⟩:=YB g5;obtain⟨e1,e2,e3,e4⟩:=YB g8;obtain⟨s3,s4⟩:=ON g5 (.int .i64 (er:Int)) (.int .i64 (a:Int));have HB3:=hid (GD s4 HB2 (by simp));clear s4 HB2 hb2 hb hB g5 g8 k5 b5 b3' hs1 hsz;go_wp2_with fail;go_region
  all_goals (go_wp2_with fail)
  all_goals (
   generalize ((w2.setCell ⟨w.heap.size+1,0,none⟩ (.int .i64 (er:Int))).setCell ⟨w.heap.size+1,1,none⟩ (.int .i64 (a:Int)))=w3 at *;obtain⟨y3,y4,_,_⟩:=YB s3;refine bodyPost_ret (v:=.tuple #[.slice none 0 0,qA er a]) ?_ rfl ?_
   ·simp [results,Tryz.results17,go_sem,y3,y4,qA]
   ·rw [HTT.out];exact⟨rfl,HB3.out.drew⟩)
 | ok l t =>
  rw [hr] at hA;obtain⟨tv,q,rfl,ht,hN,hb⟩:=hA;obtain⟨ta,tc,rfl⟩:=xB ht;unfold qA;have hcf:∀ (p1 b1 b2 b3 b4 b5:Nat) (w1:World),Sem.run Tryz.prog (callFunc 28 #[.pointer (some ⟨p1,0,none⟩),.pointer (some ⟨b1,0,none⟩),.pointer (some ⟨b2,0,none⟩),.pointer (some ⟨b3,0,none⟩),.pointer (some ⟨b4,0,none⟩),.pointer (some ⟨b5,0,none⟩)]) w1=.ok (.enter 28 #[.pointer (some ⟨p1,0,none⟩),.pointer (some ⟨b1,0,none⟩),.pointer (some ⟨b2,0,none⟩),.pointer (some ⟨b3,0,none⟩),.pointer (some ⟨b4,0,none⟩),.pointer (some ⟨b5,0,none⟩)]) w1:=fun _ _ _ _ _ _ _=>cF (by kernel_rfl) _ _
  obtain⟨p,m,hNs,hTr⟩:=MO hr;have hT:lM N goal s=.ok (parts ⟨s,l,p⟩ t):=by unfold lM;rw [hr];simp only [];rw [OI s l [] p]
  have HTT:=hid hT;have hsp:=VO hTr;have hcn:=UM HNN.out hr;have hfit:=HNN.out.fit _ _ _ hNs;clear hT hTr hNs;go_upto_region 2 with fail;have g6:=heap_alloc_new w1 (.cells #[.slice ta l.length tc] 50);have g8:=heap_alloc_new (w1.alloc (.cells #[.slice ta l.length tc] 50)) (.cells #[.int .i64 0,.int .i64 0] 35);have hb2:=((Below.refl w1.heap.size w1).alloc (Nat.le_refl _) (Obj.cells #[.slice ta l.length tc] 50)).alloc (by simp) (Obj.cells #[.int .i64 0,.int .i64 0] 35);have g6':=(((Below.refl (w1.alloc (.cells #[.slice ta l.length tc] 50)).heap.size _).alloc (Nat.le_refl _) (Obj.cells #[.int .i64 0,.int .i64 0] 35)).block w1.heap.size (by simp)).trans g6;have hszB:((w1.alloc (.cells #[.slice ta l.length tc] 50)).alloc (.cells #[.int .i64 0,.int .i64 0] 35)).heap.size=w1.heap.size+1+1:=by simp
  rw [World.size_alloc] at g8;have hs1:=hb.size;have g5:=(hb2.block _ (by omega)).trans ((hb.block _ (by omega)).trans b5);have g3:=(hb2.block _ (by omega)).trans ((hb.block _ (by omega)).trans b3');generalize ((w1.alloc (.cells #[.slice ta l.length tc] 50)).alloc (.cells #[.int .i64 0,.int .i64 0] 35))=wB at *;obtain⟨e1,e2,_,_⟩:=YB g8;have d3:wB.cell? ⟨w.heap.size,0,none⟩=some (.string ⟨s.toArray⟩):=by simp [World.cell?,g3]
  have d6:wB.cell? ⟨w1.heap.size,0,none⟩=some (.slice ta l.length tc):=by simp [World.cell?,g6']
  have hD:∀ o,(wB.alloc o).cell? ⟨w.heap.size,0,none⟩=some (.string ⟨s.toArray⟩):=fun o=>aA ((Below.refl _ _).alloc (Nat.le_refl _) _) d3
  clear g6 c3;go_upto_region 7 with fail;obtain⟨f1,f2,f3,f4,hbC,hszC⟩:=kY wB (.cells #[.string ⟨s.toArray⟩,.slice ta l.length tc,.slice none 0 0,.int .i64 0,.bool false] 57) (.cells #[.pointer (some ⟨w1.heap.size+1+1,0,none⟩)] 54) (.cells #[.slice none 0 0] 22) (.cells #[.nilFunc] 58);rw [hszB] at f1 f2 f3 f4 hszC;generalize ((((wB.alloc (.cells #[.string ⟨s.toArray⟩,.slice ta l.length tc,.slice none 0 0,.int .i64 0,.bool false] 57)).alloc (.cells #[.pointer (some ⟨w1.heap.size+1+1,0,none⟩)] 54)).alloc (.cells #[.slice none 0 0] 22)).alloc (.cells #[.nilFunc] 58))=wC at *;have c11:wC.cell? ⟨w1.heap.size+1+1+1+1+1,0,none⟩=some .nilFunc:=by simp [World.cell?,f4]
  have z11:wC.frozen? ⟨w1.heap.size+1+1+1+1+1,0,none⟩=false:=by simp [World.frozen?,f4]
  have k11:=heap_setCell_same wC (w1.heap.size+1+1+1+1+1) 0 _ _ (.func (.func 28) #[] #[.pointer (some ⟨w.heap.size,0,none⟩),.pointer (some ⟨w1.heap.size,0,none⟩),.pointer (some ⟨w1.heap.size+1+1+1,0,none⟩),.pointer (some ⟨w1.heap.size+1+1+1+1,0,none⟩),.pointer (some ⟨w1.heap.size+1+1+1+1+1,0,none⟩)]) f4;have g11:=NA (w1.heap.size+1+1+1+1+1) 0 wC (.func (.func 28) #[] #[.pointer (some ⟨w.heap.size,0,none⟩),.pointer (some ⟨w1.heap.size,0,none⟩),.pointer (some ⟨w1.heap.size+1+1+1,0,none⟩),.pointer (some ⟨w1.heap.size+1+1+1+1,0,none⟩),.pointer (some ⟨w1.heap.size+1+1+1+1+1,0,none⟩)]);have hFB:Fr [w1.heap.size+1+1+1+1+1] wB (wC.setCell ⟨w1.heap.size+1+1+1+1+1,0,none⟩ (.func (.func 28) #[] #[.pointer (some ⟨w.heap.size,0,none⟩),.pointer (some ⟨w1.heap.size,0,none⟩),.pointer (some ⟨w1.heap.size+1+1+1,0,none⟩),.pointer (some ⟨w1.heap.size+1+1+1+1,0,none⟩),.pointer (some ⟨w1.heap.size+1+1+1+1+1,0,none⟩)])):=(Fr.below hbC).trans g11;have hFS:Fr [w1.heap.size+1+1+1+1+1] w1 (wC.setCell ⟨w1.heap.size+1+1+1+1+1,0,none⟩ (.func (.func 28) #[] #[.pointer (some ⟨w.heap.size,0,none⟩),.pointer (some ⟨w1.heap.size,0,none⟩),.pointer (some ⟨w1.heap.size+1+1+1,0,none⟩),.pointer (some ⟨w1.heap.size+1+1+1+1,0,none⟩),.pointer (some ⟨w1.heap.size+1+1+1+1+1,0,none⟩)])):=(Fr.below hb2).trans hFB;have hszS:(wC.setCell ⟨w1.heap.size+1+1+1+1+1,0,none⟩ (.func (.func 28) #[] #[.pointer (some ⟨w.heap.size,0,none⟩),.pointer (some ⟨w1.heap.size,0,none⟩),.pointer (some ⟨w1.heap.size+1+1+1,0,none⟩),.pointer (some ⟨w1.heap.size+1+1+1+1,0,none⟩),.pointer (some ⟨w1.heap.size+1+1+1+1+1,0,none⟩)])).heap.size=w1.heap.size+1+1+1+1+1+1:=by simpa using hszC
  have q1:=g11.at_ (k:=w1.heap.size+1+1) (by first|(simp;done)|(simp;omega)) f1;have q2:=g11.at_ (k:=w1.heap.size+1+1+1) (by first|(simp;done)|(simp;omega)) f2;have q3:=g11.at_ (k:=w1.heap.size+1+1+1+1) (by first|(simp;done)|(simp;omega)) f3;have q6:=hFB.at_ (k:=w1.heap.size) (by first|(simp;done)|(simp;omega)) g6';have q5:=hFB.at_ (k:=w.heap.size+1) (by first|(simp;done)|(simp;omega)) g5;have q0:=hFB.at_ (k:=w.heap.size) (by first|(simp;done)|(simp;omega)) g3;have q8:=hFB.at_ (k:=w1.heap.size+1) (by first|(simp;done)|(simp;omega)) g8;have c11':(wC.setCell ⟨w1.heap.size+1+1+1+1+1,0,none⟩ (.func (.func 28) #[] #[.pointer (some ⟨w.heap.size,0,none⟩),.pointer (some ⟨w1.heap.size,0,none⟩),.pointer (some ⟨w1.heap.size+1+1+1,0,none⟩),.pointer (some ⟨w1.heap.size+1+1+1+1,0,none⟩),.pointer (some ⟨w1.heap.size+1+1+1+1+1,0,none⟩)])).cell? ⟨w1.heap.size+1+1+1+1+1,0,none⟩=some (.func (.func 28) #[] #[.pointer (some ⟨w.heap.size,0,none⟩),.pointer (some ⟨w1.heap.size,0,none⟩),.pointer (some ⟨w1.heap.size+1+1+1,0,none⟩),.pointer (some ⟨w1.heap.size+1+1+1+1,0,none⟩),.pointer (some ⟨w1.heap.size+1+1+1+1+1,0,none⟩)]):=by simp [World.cell?,k11]
  clear f1 f2 f3 f4 hbC k11 g11 hD d3 d6 e1 e2 g3 g5 g6' g8 b5 b3';go_wp2_with fail;generalize wC.setCell ⟨w1.heap.size+1+1+1+1+1,0,none⟩ (.func (.func 28) #[] #[.pointer (some ⟨w.heap.size,0,none⟩),.pointer (some ⟨w1.heap.size,0,none⟩),.pointer (some ⟨w1.heap.size+1+1+1,0,none⟩),.pointer (some ⟨w1.heap.size+1+1+1+1,0,none⟩),.pointer (some ⟨w1.heap.size+1+1+1+1+1,0,none⟩)])=wS at *;have hLie:Lie ({ s:=s,l:=l,pair:=p,ta:=ta,tcap:=tc,pa:=none,pcap:=0,zb:=0,zo:=none }:Ev) (w1.heap.size+1+1) wS:=by
   refine⟨fun i t9 h=>?_,hfit.fits,by have:=hfit.small;show l.length≤_;omega⟩;obtain⟨h0,h1,h2⟩:=lH h;obtain⟨b,e,_,hb2',c0⟩:=GA ht h0;obtain⟨b',e',_,_,c1⟩:=GA ht h1;obtain⟨b'',e'',_,_,c2⟩:=GA ht h2;rw [e] at e' e'';cases e';cases e'';exact⟨b,0,e,by omega,by simpa using hFS.cell (by simp;omega) c0,by simpa using hFS.cell (by simp;omega) c1,by simpa using hFS.cell (by simp;omega) c2⟩
  have hTA:TR ({ s:=s,l:=l,pair:=p,ta:=ta,tcap:=tc,pa:=none,pcap:=0,zb:=0,zo:=none }:Ev) wS (w1.heap.size+1+1) w.heap.size w1.heap.size (w1.heap.size+1+1+1) (w1.heap.size+1+1+1+1) (w1.heap.size+1+1+1+1+1) :=
   ⟨by omega,by simp [World.cell?,q0],by simp [World.cell?,q6],by simp [World.cell?,q2],c11',by simp [World.cell?,q1],by simp [World.cell?,q1],hLie,by omega,by omega,by omega,by omega,by omega,by omega⟩
  have hP0:AH wS (w1.heap.size+1+1+1+1) [] wS:=⟨_,q3,World.ownsRow_nil _ _ _ _,Fr.refl _ _⟩;have hTS:nA wS (tU wS (w1.heap.size+1+1+1+1)) q t:=nA.kept (w:=w1) (w':=wS) (D:=within wA.heap.size w1.heap.size) (D':=tU wS (w1.heap.size+1+1+1+1)) (fun b hb'=>hFS.block b hb'.2 (by have:=hb'.2;simp;omega)) (fun b hb'=>⟨by have:=hb'.2;omega,by have:=hb'.2;omega⟩) q t hN;refine (AU hTA (cnt t) t (Nat.le_refl _) q [] wS hTS hsp hP0 (by simp;omega)).mono ?_;rintro e w5 ⟨rfl,nv,n1,n2,n3⟩;rw [List.nil_append] at n2;obtain⟨na,nc,rfl⟩:=xB n2;have m5:=n3.at_ (k:=w.heap.size+1) (by simp;omega) q5;have m8:=n3.at_ (k:=w1.heap.size+1) (by simp) q8;have HZ:=hid (And.intro n2 (And.intro n3 (And.intro hFS (And.intro hb (And.intro hB (And.intro hszS (And.intro hsz hs1)))))));have c10:w5.cell? ⟨w1.heap.size+1+1+1+1,0,none⟩=some (.slice na (parts ⟨s,l,p⟩ t).length nc):=by simp [World.cell?,n1]
  clear ht hFS n2 n3 hb hB hP0 hTS q0 q1 q2 q3 q5 q6 q8 c11' hN hTA hLie hFB;have hn1:w1.heap.size+1≠w.heap.size+1:=by omega
  have hn2:w1.heap.size+1+1+1+1≠w.heap.size+1:=by omega
  obtain⟨d1,d2,d3,d4⟩:=YB m5;obtain⟨e1,e2,e3,e4⟩:=YB m8;obtain⟨s3,s4⟩:=ON m5 (.int .i64 0) (.int .i64 0);have HS:=hid s4;clear s4 m5 m8 n1 hs1 hszS hsz hszB;go_wp2_with fail;go_region
  all_goals (go_wp2_with fail)
  all_goals (
   generalize ((w5.setCell ⟨w.heap.size+1,0,none⟩ (.int .i64 0)).setCell ⟨w.heap.size+1,1,none⟩ (.int .i64 0))=w3 at *;obtain⟨y3,y4,_,_⟩:=YB s3;refine bodyPost_ret (v:=.tuple #[.slice na (parts ⟨s,l,p⟩ t).length nc,qA 0 0]) ?_ rfl ?_
   ·simp [results,Tryz.results17,go_sem,y3,y4,qA]
   ·rw [HTT.out];obtain⟨z1,z2,z3,z4,z5,z6,z7,z8⟩:=HZ.out;have x1:=HS.out;have hD:Fr [] w3 w3.drew:=Fr.below (Below.refl _ _).drew;refine⟨_,rfl,?_,?_⟩
    ·refine YP (lo:=wS.heap.size) (CD (CD z1 x1 ?_) hD (by simp)) (by omega);intro b hb e;simp at hb;have:=z1.lt b e;omega
    ·have b1:=z5.trans (z4.mono (show w.heap.size≤wA.heap.size by omega));exact (GD x1 (GD z2 (GD z3 b1 (by simp;omega)) (by simp;omega)) (by simp)).drew)
end
section
open Go.RowKit
variable {w:World}
def gZ (goal:UInt8) (s:List UInt8):qK:=tD kE goal s
def nZ (goal:UInt8) (s:List UInt8):=lM kE goal s
end
section
open Go.RowKit
variable {w:World}
def US:qK→Nat × Nat|.bad e a=>(e,a)|.ok _ _=>(0,0)
def TQ (s:List UInt8) (r:qK) (w w':World) (pv:Value):Prop :=
 match r with
 | .bad _ _=>pv=.slice none 0 0
 | .ok l t=>w'.ownsRow w.heap.size 46 3 pv (parts ⟨s,l,[]⟩ t).length (CF (parts ⟨s,l,[]⟩ t))
theorem nV (goal:UInt8) (s:List UInt8) (w:World) (hw:NC w):Calls Tryz.prog 17 #[.int .u8 (goal.toNat:Int),.string ⟨s.toArray⟩] w (fun e w'=>∃ (pa:Option Addr) (pn pc:Nat),e=.returned (.tuple #[.slice pa pn pc,.agg #[.int .i64 ((US (tD kE goal s)).1:Int),.int .i64 ((US (tD kE goal s)).2:Int)]])∧TQ s (tD kE goal s) w w' (.slice pa pn pc)∧Below w.heap.size w w'):=by
 refine (TS gM goal s w hw).mono fun e w' h=>?_
 unfold lM at h;cases hr:tD kE goal s with
 | bad er a=>rw [hr] at h;obtain⟨rfl,hb⟩:=h;exact⟨_,_,_,rfl,rfl,hb⟩
 | ok l t=>rw [hr] at h;obtain⟨pv,rfl,h1,hb⟩:=h;obtain⟨pa,pc,rfl⟩:=Grd.ID h1;exact⟨_,_,_,rfl,h1,hb⟩
theorem FY (w:World) (a b:Obj):Below w.heap.size w ((w.alloc a).alloc b)∧((w.alloc a).alloc b).heap[w.heap.size]?=some a∧((w.alloc a).alloc b).heap[w.heap.size+1]?=some b∧((w.alloc a).alloc b).heap.size=w.heap.size+1+1:=by
 have h1:=heap_alloc_new w a;have h2:=heap_alloc_new (w.alloc a) b;rw [World.size_alloc] at h2;have hb:=(Below.refl w.heap.size w).alloc (Nat.le_refl _) a;have hb2:=(Below.refl (w.alloc a).heap.size (w.alloc a)).alloc (Nat.le_refl _) b;exact⟨hb.alloc (by simp) b,(hb2.block _ (by simp)).trans h1,h2,by simp⟩
end
end Go.Proofs.YtfmpphplbdojbaaGreatDoor
