import Derived.Test.YtfmpphplbdojbaaGreatDoorQAF
import Derived.Test.YtfmpphplbdojbaaGreatDoorQBI
import Derived.Laws.EntriesVeiled
import Derived.Test.YtfmpphplbdojbaaGreatDoorQBD
import Derived.Deep.LoopGhost
import Derived.Test.YtfmpphplbdojbaaGreatDoorQBE
namespace Go.Proofs.YtfmpphplbdojbaaGreatDoor
open Lib(hid)
set_option linter.all false
set_option maxHeartbeats 40000000
set_option maxRecDepth 100000
section
def zI (l:List Pt3):List Int:=l.map fun p=>(p.kids:Int)
end
section
open Go.RowKit
variable {w w':World}
mutual
theorem OI (s:List UInt8) (l:List Tk) (p p':List Int):∀ t:Tr,parts ⟨s,l,p⟩ t=parts ⟨s,l,p'⟩ t
 | .mk k wd f t ks=>by
  have h:=yK s l p p' ks;simp only [parts,h]
  rfl
theorem yK (s:List UInt8) (l:List Tk) (p p':List Int):∀ ts:List Tr,kC ⟨s,l,p⟩ ts=kC ⟨s,l,p'⟩ ts
 | []=>rfl
 | t::ts=>by simp only [kC,OI s l p p' t,yK s l p p' ts]
end
theorem kY (w:World) (o1 o2 o3 o4:Obj):((((w.alloc o1).alloc o2).alloc o3).alloc o4).heap[w.heap.size]?=some o1/\((((w.alloc o1).alloc o2).alloc o3).alloc o4).heap[w.heap.size+1]?=some o2/\((((w.alloc o1).alloc o2).alloc o3).alloc o4).heap[w.heap.size+1+1]?=some o3/\((((w.alloc o1).alloc o2).alloc o3).alloc o4).heap[w.heap.size+1+1+1]?=some o4 /\
  Below w.heap.size w ((((w.alloc o1).alloc o2).alloc o3).alloc o4)/\((((w.alloc o1).alloc o2).alloc o3).alloc o4).heap.size=w.heap.size+1+1+1+1:=by
 obtain⟨h1,h2,h3,hb,hs⟩:=gV w o1 o2 o3;generalize ((w.alloc o1).alloc o2).alloc o3=w3 at *;have h4:=heap_alloc_new w3 o4;have b4:=(J' w3.heap.size w3).alloc (C' _) o4;rw [hs] at h4;exact⟨(b4.block _ Cf).trans h1,(b4.block _ Cf).trans h2,(b4.block _ Cf).trans h3,h4,hb.alloc Cf o4,by simp [hs]⟩
theorem MO {N:List UInt8->uH}{goal:UInt8}{s:List UInt8}{l:List Tk}{t:Tr} (h:tD N goal s=.ok l t):∃ p m,N s=.ok l p/\FD ⟨s,l,p⟩ goal=.ok t m:=by
 unfold tD at h;split at h
 ·exact C4
 ·split at h
  ·exact C4
  ·rename_i l2 p hN;split at h
   ·rename_i t2 m hT;cases h;exact⟨p,m,hN,hT⟩
   ·exact C4
   ·exact C4
inductive eS where
 | bad (err at':Nat):eS
 | ok (l:List Pt3):eS
def lM (N:List UInt8->uH) (goal:UInt8) (s:List UInt8):eS :=
 match tD N goal s with
 | .bad e a=>.bad e a
 | .ok l t=>.ok (parts ⟨s,l,[]⟩ t)
def rW (r:eS) (w:World) (e:Ending) (w':World):Prop :=
 match r with
 | .bad err a=>e=.returned (.tuple #[.slice none 0 0,qA err a])/\Below w.heap.size w w'
 | .ok l=>∃ pv,e=.returned (.tuple #[pv,qA 0 0])/\w'.ownsRow w.heap.size 46 3 pv l.length (CF l)/\Below w.heap.size w w'
theorem TS {N:List UInt8->uH} (HN:LJ N) (goal:UInt8) (s:List UInt8) (w:World) (hw:NC w) :
  Calls Tryz.prog 17 #[.int .u8 (goal.toNat:Int),.string ⟨s.toArray⟩] w (rW (lM N goal s) w):=by
 have HNN:=hid HN;clear HN;have b3:=heap_alloc_new w (.cells #[.string ⟨s.toArray⟩] 9);have b5:=heap_alloc_new (w.alloc (.cells #[.string ⟨s.toArray⟩] 9)) (.cells #[.int .i64 0,.int .i64 0] 35);have b3':=(((J' (w.alloc (.cells #[.string ⟨s.toArray⟩] 9)).heap.size _).alloc (C' _) (Obj.cells #[.int .i64 0,.int .i64 0] 35)).block w.heap.size Cm).trans b3;have hB:=((J' w.heap.size w).alloc (C' _) (Obj.cells #[.string ⟨s.toArray⟩] 9)).alloc Cm (Obj.cells #[.int .i64 0,.int .i64 0] 35);have HW:=hid (hw.below hB);clear hw;have hsz:((w.alloc (.cells #[.string ⟨s.toArray⟩] 9)).alloc (.cells #[.int .i64 0,.int .i64 0] 35)).heap.size=w.heap.size+1+1:=Cm
 rw [World.size_alloc] at b5;clear b3;go_enter Tryz.func17,Tryz.ntmps17;go_upto_region 1 with fail;generalize ((w.alloc (.cells #[.string ⟨s.toArray⟩] 9)).alloc (.cells #[.int .i64 0,.int .i64 0] 35))=wA at *;have c3:wA.cell? ⟨w.heap.size,0,none⟩=some (.string ⟨s.toArray⟩):=by simp [World.cell?,b3']
 go_wp2_with fail;refine (xT HNN.out goal s wA HW.out).mono ?_;intro e w1 hA;cases hr:tD N goal s with
 | bad er a =>
  rw [hr] at hA;obtain⟨va,vn,vc,rfl,hb⟩:=hA;have hne:((er:Nat):Int)≠0:=by have:=QP HNN.out hr;omega
  have hne2:(((er:Nat):Int)==0)=false:=Hg
  have k5:=(hb.block _ Cf).trans b5;have hs1:=hb.size;unfold qA;have hT:lM N goal s=.bad er a:=by unfold lM;rw [hr]
  have HTT:=hid hT;clear hT;go_upto_region 2 with fail;have g8:=heap_alloc_new (w1.alloc (.cells #[.slice va vn vc] 50)) (.cells #[.int .i64 (er:Int),.int .i64 (a:Int)] 35);have hb2:=((J' w1.heap.size w1).alloc (C' _) (Obj.cells #[.slice va vn vc] 50)).alloc Cm (Obj.cells #[.int .i64 (er:Int),.int .i64 (a:Int)] 35);rw [World.size_alloc] at g8;have g5:=(hb2.block _ Cf).trans k5;have HB2:=hB.trans ((hb.mono (show w.heap.size<=wA.heap.size by omega)).trans (hb2.mono (show w.heap.size<=w1.heap.size by omega)));generalize ((w1.alloc (.cells #[.slice va vn vc] 50)).alloc (.cells #[.int .i64 (er:Int),.int .i64 (a:Int)] 35))=w2 at *;have hn1:w1.heap.size+1≠w.heap.size+1:=Cf
  obtain⟨d1,d2,d3,d4⟩:=YB g5;obtain⟨e1,e2,e3,e4⟩:=YB g8;obtain⟨s3,s4⟩:=ON g5 (.int .i64 (er:Int)) (.int .i64 (a:Int));have HB3:=hid (GD s4 HB2 Cm);clear s4 HB2 hb2 hb hB g5 g8 k5 b5 b3' hs1 hsz;go_wp2_with fail;go_region
  all_goals (go_wp2_with fail)
  all_goals (
   generalize ((w2.setCell ⟨w.heap.size+1,0,none⟩ (.int .i64 (er:Int))).setCell ⟨w.heap.size+1,1,none⟩ (.int .i64 (a:Int)))=w3 at *;obtain⟨y3,y4,_,_⟩:=YB s3;refine bodyPost_ret (v:=.tuple #[.slice none 0 0,qA er a]) ?_ rfl ?_
   ·simp [results,Tryz.results17,go_sem,y3,y4,qA]
   ·rw [HTT.out];exact⟨rfl,HB3.out.drew⟩)
 | ok l t =>
  rw [hr] at hA;obtain⟨tv,q,rfl,ht,hN,hb⟩:=hA;obtain⟨ta,tc,rfl⟩:=xB ht;unfold qA;have hcf:∀ (p1 b1 b2 b3 b4 b5:Nat) (w1:World),Sem.run Tryz.prog (callFunc 28 #[.pointer (some ⟨p1,0,none⟩),.pointer (some ⟨b1,0,none⟩),.pointer (some ⟨b2,0,none⟩),.pointer (some ⟨b3,0,none⟩),.pointer (some ⟨b4,0,none⟩),.pointer (some ⟨b5,0,none⟩)]) w1=.ok (.enter 28 #[.pointer (some ⟨p1,0,none⟩),.pointer (some ⟨b1,0,none⟩),.pointer (some ⟨b2,0,none⟩),.pointer (some ⟨b3,0,none⟩),.pointer (some ⟨b4,0,none⟩),.pointer (some ⟨b5,0,none⟩)]) w1:=fun _ _ _ _ _ _ _=>cF Ci _ _
  obtain⟨p,m,hNs,hTr⟩:=MO hr;have hT:lM N goal s=.ok (parts ⟨s,l,p⟩ t):=by unfold lM;rw [hr];simp only [];rw [OI s l [] p]
  have HTT:=hid hT;have hsp:=VO hTr;have hcn:=UM HNN.out hr;have hfit:=HNN.out.fit _ _ _ hNs;clear hT hTr hNs;go_upto_region 2 with fail;have g6:=heap_alloc_new w1 (.cells #[.slice ta l.length tc] 50);have g8:=heap_alloc_new (w1.alloc (.cells #[.slice ta l.length tc] 50)) (.cells #[.int .i64 0,.int .i64 0] 35);have hb2:=((J' w1.heap.size w1).alloc (C' _) (Obj.cells #[.slice ta l.length tc] 50)).alloc Cm (Obj.cells #[.int .i64 0,.int .i64 0] 35);have g6':=(((J' (w1.alloc (.cells #[.slice ta l.length tc] 50)).heap.size _).alloc (C' _) (Obj.cells #[.int .i64 0,.int .i64 0] 35)).block w1.heap.size Cm).trans g6;have hszB:((w1.alloc (.cells #[.slice ta l.length tc] 50)).alloc (.cells #[.int .i64 0,.int .i64 0] 35)).heap.size=w1.heap.size+1+1:=Cm
  rw [World.size_alloc] at g8;have hs1:=hb.size;have g5:=(hb2.block _ Cf).trans ((hb.block _ Cf).trans b5);have g3:=(hb2.block _ Cf).trans ((hb.block _ Cf).trans b3');generalize ((w1.alloc (.cells #[.slice ta l.length tc] 50)).alloc (.cells #[.int .i64 0,.int .i64 0] 35))=wB at *;obtain⟨e1,e2,_,_⟩:=YB g8;have d3:wB.cell? ⟨w.heap.size,0,none⟩=some (.string ⟨s.toArray⟩):=by simp [World.cell?,g3]
  have d6:wB.cell? ⟨w1.heap.size,0,none⟩=some (.slice ta l.length tc):=by simp [World.cell?,g6']
  have hD:∀ o,(wB.alloc o).cell? ⟨w.heap.size,0,none⟩=some (.string ⟨s.toArray⟩):=fun o=>aA ((J' _ _).alloc (C' _) _) d3
  clear g6 c3;go_upto_region 7 with fail;obtain⟨f1,f2,f3,f4,hbC,hszC⟩:=kY wB (.cells #[.string ⟨s.toArray⟩,.slice ta l.length tc,.slice none 0 0,.int .i64 0,.bool false] 57) (.cells #[.pointer (some ⟨w1.heap.size+1+1,0,none⟩)] 54) (.cells #[.slice none 0 0] 22) (.cells #[.nilFunc] 58);rw [hszB] at f1 f2 f3 f4 hszC;generalize ((((wB.alloc (.cells #[.string ⟨s.toArray⟩,.slice ta l.length tc,.slice none 0 0,.int .i64 0,.bool false] 57)).alloc (.cells #[.pointer (some ⟨w1.heap.size+1+1,0,none⟩)] 54)).alloc (.cells #[.slice none 0 0] 22)).alloc (.cells #[.nilFunc] 58))=wC at *;have c11:wC.cell? ⟨w1.heap.size+1+1+1+1+1,0,none⟩=some .nilFunc:=by simp [World.cell?,f4]
  have z11:wC.frozen? ⟨w1.heap.size+1+1+1+1+1,0,none⟩=false:=by simp [World.frozen?,f4]
  have k11:=heap_setCell_same wC (w1.heap.size+1+1+1+1+1) 0 _ _ (.func (.func 28) #[] #[.pointer (some ⟨w.heap.size,0,none⟩),.pointer (some ⟨w1.heap.size,0,none⟩),.pointer (some ⟨w1.heap.size+1+1+1,0,none⟩),.pointer (some ⟨w1.heap.size+1+1+1+1,0,none⟩),.pointer (some ⟨w1.heap.size+1+1+1+1+1,0,none⟩)]) f4;have g11:=NA (w1.heap.size+1+1+1+1+1) 0 wC (.func (.func 28) #[] #[.pointer (some ⟨w.heap.size,0,none⟩),.pointer (some ⟨w1.heap.size,0,none⟩),.pointer (some ⟨w1.heap.size+1+1+1,0,none⟩),.pointer (some ⟨w1.heap.size+1+1+1+1,0,none⟩),.pointer (some ⟨w1.heap.size+1+1+1+1+1,0,none⟩)]);have hFB:Fr [w1.heap.size+1+1+1+1+1] wB (wC.setCell ⟨w1.heap.size+1+1+1+1+1,0,none⟩ (.func (.func 28) #[] #[.pointer (some ⟨w.heap.size,0,none⟩),.pointer (some ⟨w1.heap.size,0,none⟩),.pointer (some ⟨w1.heap.size+1+1+1,0,none⟩),.pointer (some ⟨w1.heap.size+1+1+1+1,0,none⟩),.pointer (some ⟨w1.heap.size+1+1+1+1+1,0,none⟩)])):=(Fr.below hbC).trans g11;have hFS:Fr [w1.heap.size+1+1+1+1+1] w1 (wC.setCell ⟨w1.heap.size+1+1+1+1+1,0,none⟩ (.func (.func 28) #[] #[.pointer (some ⟨w.heap.size,0,none⟩),.pointer (some ⟨w1.heap.size,0,none⟩),.pointer (some ⟨w1.heap.size+1+1+1,0,none⟩),.pointer (some ⟨w1.heap.size+1+1+1+1,0,none⟩),.pointer (some ⟨w1.heap.size+1+1+1+1+1,0,none⟩)])):=(Fr.below hb2).trans hFB;have hszS:(wC.setCell ⟨w1.heap.size+1+1+1+1+1,0,none⟩ (.func (.func 28) #[] #[.pointer (some ⟨w.heap.size,0,none⟩),.pointer (some ⟨w1.heap.size,0,none⟩),.pointer (some ⟨w1.heap.size+1+1+1,0,none⟩),.pointer (some ⟨w1.heap.size+1+1+1+1,0,none⟩),.pointer (some ⟨w1.heap.size+1+1+1+1+1,0,none⟩)])).heap.size=w1.heap.size+1+1+1+1+1+1:=by simpa using hszC
  have q1:=g11.at_ (k:=w1.heap.size+1+1) Dk f1;have q2:=g11.at_ (k:=w1.heap.size+1+1+1) Dk f2;have q3:=g11.at_ (k:=w1.heap.size+1+1+1+1) Dk f3;have q6:=hFB.at_ (k:=w1.heap.size) Dk g6';have q5:=hFB.at_ (k:=w.heap.size+1) Dk g5;have q0:=hFB.at_ (k:=w.heap.size) Dk g3;have q8:=hFB.at_ (k:=w1.heap.size+1) Dk g8;have c11':(wC.setCell ⟨w1.heap.size+1+1+1+1+1,0,none⟩ (.func (.func 28) #[] #[.pointer (some ⟨w.heap.size,0,none⟩),.pointer (some ⟨w1.heap.size,0,none⟩),.pointer (some ⟨w1.heap.size+1+1+1,0,none⟩),.pointer (some ⟨w1.heap.size+1+1+1+1,0,none⟩),.pointer (some ⟨w1.heap.size+1+1+1+1+1,0,none⟩)])).cell? ⟨w1.heap.size+1+1+1+1+1,0,none⟩=some (.func (.func 28) #[] #[.pointer (some ⟨w.heap.size,0,none⟩),.pointer (some ⟨w1.heap.size,0,none⟩),.pointer (some ⟨w1.heap.size+1+1+1,0,none⟩),.pointer (some ⟨w1.heap.size+1+1+1+1,0,none⟩),.pointer (some ⟨w1.heap.size+1+1+1+1+1,0,none⟩)]):=by simp [World.cell?,k11]
  clear f1 f2 f3 f4 hbC k11 g11 hD d3 d6 e1 e2 g3 g5 g6' g8 b5 b3';go_wp2_with fail;generalize wC.setCell ⟨w1.heap.size+1+1+1+1+1,0,none⟩ (.func (.func 28) #[] #[.pointer (some ⟨w.heap.size,0,none⟩),.pointer (some ⟨w1.heap.size,0,none⟩),.pointer (some ⟨w1.heap.size+1+1+1,0,none⟩),.pointer (some ⟨w1.heap.size+1+1+1+1,0,none⟩),.pointer (some ⟨w1.heap.size+1+1+1+1+1,0,none⟩)])=wS at *;have hLie:Lie ({ s:=s,l:=l,pair:=p,ta:=ta,tcap:=tc,pa:=none,pcap:=0,zb:=0,zo:=none }:Ev) (w1.heap.size+1+1) wS:=by
   refine⟨fun i t9 h=>?_,hfit.fits,by have:=hfit.small;show l.length<=_;omega⟩;obtain⟨h0,h1,h2⟩:=lH h;obtain⟨b,e,_,hb2',c0⟩:=GA ht h0;obtain⟨b',e',_,_,c1⟩:=GA ht h1;obtain⟨b'',e'',_,_,c2⟩:=GA ht h2;rw [e] at e' e'';cases e';cases e'';exact⟨b,0,e,Cf,by simpa using hFS.cell Cn c0,by simpa using hFS.cell Cn c1,by simpa using hFS.cell Cn c2⟩
  have hTA:TR ({ s:=s,l:=l,pair:=p,ta:=ta,tcap:=tc,pa:=none,pcap:=0,zb:=0,zo:=none }:Ev) wS (w1.heap.size+1+1) w.heap.size w1.heap.size (w1.heap.size+1+1+1) (w1.heap.size+1+1+1+1) (w1.heap.size+1+1+1+1+1) :=
   ⟨Cf,by simp [World.cell?,q0],by simp [World.cell?,q6],by simp [World.cell?,q2],c11',by simp [World.cell?,q1],by simp [World.cell?,q1],hLie,Cf,Cf,Cf,Cf,Cf,Cf⟩
  have hP0:AH wS (w1.heap.size+1+1+1+1) [] wS:=⟨_,q3,As _ _ _ _,Fr.refl _ _⟩;have hTS:nA wS (tU wS (w1.heap.size+1+1+1+1)) q t:=nA.kept (w:=w1) (w':=wS) (D:=within wA.heap.size w1.heap.size) (D':=tU wS (w1.heap.size+1+1+1+1)) (fun b hb'=>hFS.block b hb'.2 (by have:=hb'.2;simp;omega)) (fun b hb'=>⟨by have:=hb'.2;omega,by have:=hb'.2;omega⟩) q t hN;refine (AU hTA (cnt t) t (C' _) q [] wS hTS hsp hP0 Cn).mono ?_;rintro e w5 ⟨rfl,nv,n1,n2,n3⟩;rw [Ao] at n2;obtain⟨na,nc,rfl⟩:=xB n2;have m5:=n3.at_ (k:=w.heap.size+1) Cn q5;have m8:=n3.at_ (k:=w1.heap.size+1) Cm q8;have HZ:=hid (And.intro n2 (And.intro n3 (And.intro hFS (And.intro hb (And.intro hB (And.intro hszS (And.intro hsz hs1)))))));have c10:w5.cell? ⟨w1.heap.size+1+1+1+1,0,none⟩=some (.slice na (parts ⟨s,l,p⟩ t).length nc):=by simp [World.cell?,n1]
  clear ht hFS n2 n3 hb hB hP0 hTS q0 q1 q2 q3 q5 q6 q8 c11' hN hTA hLie hFB;have hn1:w1.heap.size+1≠w.heap.size+1:=Cf
  have hn2:w1.heap.size+1+1+1+1≠w.heap.size+1:=Cf
  obtain⟨d1,d2,d3,d4⟩:=YB m5;obtain⟨e1,e2,e3,e4⟩:=YB m8;obtain⟨s3,s4⟩:=ON m5 (.int .i64 0) (.int .i64 0);have HS:=hid s4;clear s4 m5 m8 n1 hs1 hszS hsz hszB;go_wp2_with fail;go_region
  all_goals (go_wp2_with fail)
  all_goals (
   generalize ((w5.setCell ⟨w.heap.size+1,0,none⟩ (.int .i64 0)).setCell ⟨w.heap.size+1,1,none⟩ (.int .i64 0))=w3 at *;obtain⟨y3,y4,_,_⟩:=YB s3;refine bodyPost_ret (v:=.tuple #[.slice na (parts ⟨s,l,p⟩ t).length nc,qA 0 0]) ?_ rfl ?_
   ·simp [results,Tryz.results17,go_sem,y3,y4,qA]
   ·rw [HTT.out];obtain⟨z1,z2,z3,z4,z5,z6,z7,z8⟩:=HZ.out;have x1:=HS.out;have hD:Fr [] w3 w3.drew:=Fr.below (J' _ _).drew;refine⟨_,rfl,?_,?_⟩
    ·refine YP (lo:=wS.heap.size) (CD (CD z1 x1 ?_) hD Cm) Cf;intro b hb e;simp at hb;have:=z1.lt b e;omega
    ·have b1:=z5.trans (z4.mono (show w.heap.size<=wA.heap.size by omega));exact (GD x1 (GD z2 (GD z3 b1 Cn) Cn) Cm).drew)
end
section
open Go.RowKit
variable {w:World}
def gZ (goal:UInt8) (s:List UInt8):qK:=tD kE goal s
def nZ (goal:UInt8) (s:List UInt8):=lM kE goal s
end
section
open Go.RowKit
variable {w:World}
def US:qK->Nat × Nat|.bad e a=>(e,a)|.ok _ _=>(0,0)
def TQ (s:List UInt8) (r:qK) (w w':World) (pv:Value):Prop :=
 match r with
 | .bad _ _=>pv=.slice none 0 0
 | .ok l t=>w'.ownsRow w.heap.size 46 3 pv (parts ⟨s,l,[]⟩ t).length (CF (parts ⟨s,l,[]⟩ t))
theorem nV (goal:UInt8) (s:List UInt8) (w:World) (hw:NC w):Calls Tryz.prog 17 #[.int .u8 (goal.toNat:Int),.string ⟨s.toArray⟩] w (fun e w'=>∃ (pa:Option Addr) (pn pc:Nat),e=.returned (.tuple #[.slice pa pn pc,.agg #[.int .i64 ((US (tD kE goal s)).1:Int),.int .i64 ((US (tD kE goal s)).2:Int)]])/\TQ s (tD kE goal s) w w' (.slice pa pn pc)/\Below w.heap.size w w'):=by
 refine (TS gM goal s w hw).mono fun e w' h=>?_
 unfold lM at h;cases hr:tD kE goal s with
 | bad er a=>rw [hr] at h;obtain⟨rfl,hb⟩:=h;exact⟨_,_,_,rfl,rfl,hb⟩
 | ok l t=>rw [hr] at h;obtain⟨pv,rfl,h1,hb⟩:=h;obtain⟨pa,pc,rfl⟩:=Grd.ID h1;exact⟨_,_,_,rfl,h1,hb⟩
end
section
variable {l:List UInt8}{a b:Nat}
end
section
variable {l:List UInt8}{a b:Nat}
def shQ (a:Nat) (q:Qs):Qs:=⟨q.k - a,q.out,q.bad⟩
end
section
def bS (E:Env):Prop:=∀ k wd,gB E k wd=true->AC (k.toNat:Int) (lD E k wd)=true
end
section
def tkW (s:List UInt8) (t:Tk):List UInt8:=(s.take t.to).drop t.fr
structure mH (s:List UInt8) (t:Tk):Prop where
 name:t.kind=1->VM (tkW s t)=true
 lit:3<=t.kind.toNat->t.kind.toNat<=7->(uG (tkW s t)).2=0∨Num.yE (tkW s t)≠0
variable {E:Env}
theorem yS {n:Nat}{t:Tk} (h:E.l[n]?=some t):E.text (n:Int)=tkW E.s t:=by
 unfold Env.text;rw [if_neg Cf,Ae,h];rfl
def ZH (k:UInt8):List (List UInt8) :=
 if k=3∨k=4 then [[105,109,112,111,114,116],[99,111,110,115,116],[118,97,114],[116,121,112,101]]
 else if k=36 then [[43],[45],[33],[94],[38],[60,45]]
 else if k=37 then [[124,124],[38,38],[61,61],[33,61],[60],[60,61],[62],[62,61],[43],[45],[124],[94],[42],[47],[37],[60,60],[62,62],[38],[38,94]]
 else if k=45 then [[99,104,97,110],[60,45]]
 else if k=52 then [[43,43],[45,45]]
 else if k=53 then [[61],[58,61],[43,61],[45,61],[42,61],[47,61],[37,61],[38,61],[124,61],[94,61],[60,60,61],[62,62,61],[38,94,61]]
 else if k=57 then [[98,114,101,97,107],[99,111,110,116,105,110,117,101],[103,111,116,111],[102,97,108,108,116,104,114,111,117,103,104]]
 else if k=5 then [[46]] else if k=7 then [[61]] else if k=15∨k=34 then [[46,46,46]] else if k=66 then [[61],[58,61]] else []
end
section
end
section
open Go.RowKit
variable {w:World}
structure qY (goal:UInt8) (s:List UInt8) (l:List Tk) (t:Tr):Prop where
 few:l.length<=131072
 fits:∀ x∈l,x.fr<=x.to/\x.to<=s.length
 short:s.length<=65536
 lies:UB t
 upto:t.to<=l.length
 cnt:cnt t<=20000005
 good:fF ((parts ⟨s,l,[]⟩ t).map ptG)=true
 spell:∃ p,Sp ⟨s,l,p⟩ t
end
