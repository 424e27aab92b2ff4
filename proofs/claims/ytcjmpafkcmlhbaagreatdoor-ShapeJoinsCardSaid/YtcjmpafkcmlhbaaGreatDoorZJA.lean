import Derived.Handy
import Derived.Test.YtcjmpafkcmlhbaaGreatDoorQBV
import Derived.Test.YtcjmpafkcmlhbaaGreatDoorQBW
import Derived.Test.YtcjmpafkcmlhbaaGreatDoorQBN
import Derived.Test.YtcjmpafkcmlhbaaGreatDoorQBI
import Derived.WalkMore
namespace Go.Proofs.YtcjmpafkcmlhbaaGreatDoor
open _root_.Go.Lib(hid)
set_option linter.all false
set_option maxHeartbeats 40000000
set_option maxRecDepth 100000
namespace Shp
open Go.RowKit
open Grd (Pt tB)
variable {w w':World}
def oE (s:List UInt8) (l:List Tk) (t:Tr):List Pt:=(parts ⟨s,l,[]⟩ t).map ptG
theorem XU {goal:UInt8}{s:List UInt8}{l:List Tk}{t:Tr} (h:tD kE goal s=.ok l t):fF (oE s l t)=true∧(oE s l t).length≤100000000∧∀ p∈oE s l t,p.w.length≤1048576:=by
 have hk:=GS h;have hc:=hk.cnt;refine⟨hk.good,?_,fun p hp=>?_⟩
 ·unfold oE;rw [List.length_map,nI];omega
 ·obtain⟨x,hx,rfl⟩:=List.mem_map.1 hp;exact Nat.le_trans (rL ⟨s,l,[]⟩ hk.short t x hx) (by decide)
def FX (s:List UInt8) (r:qK) (w w':World) (v:Value):Prop :=
 match r with
 | .bad _ _=>v=.slice none 0 0
 | .ok l t=>w'.ownsRow w.heap.size 41 2 v (AA (oE s l t) (oE s l t).length).length (EI (AA (oE s l t) (oE s l t).length))
theorem bU (goal:UInt8) (s:List UInt8) (hT:NC w):Calls Tryz.prog 25 #[.int .u8 (goal.toNat:Int),.string ⟨s.toArray⟩] w fun e w'=>∃ v,e=.returned (.tuple #[v,.agg #[.int .i64 ((US (tD kE goal s)).1:Int),.int .i64 ((US (tD kE goal s)).2:Int)]])∧FX s (tD kE goal s) w w' v∧Below w.heap.size w w':=by
 have HM0:=fun w h=>nV goal s w h
 obtain⟨r,hr⟩:∃ r,r=tD kE goal s:=⟨_,rfl⟩;rw [← hr] at HM0 ⊢;have HR:=hid hr;obtain⟨er,her⟩:∃ er,er=(US r).1:=⟨_,rfl⟩;obtain⟨ea,hea⟩:∃ ea,ea=(US r).2:=⟨_,rfl⟩;rw [← her,← hea] at HM0 ⊢;have HE:=hid (And.intro her hea);have HT:=hid hT;have HM:=hid HM0;clear hr her hea hT HM0;go_enter Tryz.func25,Tryz.ntmps25;go_wp2_with fail;have x1:=heap_alloc_new w (Obj.cells #[.int .i64 0,.int .i64 0] 25);have bx:=(Below.refl w.heap.size w).alloc (Nat.le_refl _) (Obj.cells #[.int .i64 0,.int .i64 0] 25);have hsx:w.heap.size < (w.alloc (Obj.cells #[.int .i64 0,.int .i64 0] 25)).heap.size:=by simp
 generalize w.alloc (Obj.cells #[.int .i64 0,.int .i64 0] 25)=wx at *;refine (HM.out wx (HT.out.below bx)).mono ?_;rintro e w2 ⟨pa,pn,pc,rfl,hq1,hb1⟩;go_upto_region 2 with fail;obtain⟨OF,hOF⟩:∃ O,O=Obj.cells #[.int .i64 (er:Int),.int .i64 (ea:Int)] 25 (0,0):=⟨_,rfl⟩;rw [← hOF];have A1:=heap_alloc_new w2 OF;have bA:=(Below.refl w2.heap.size w2).alloc (Nat.le_refl _) OF;have bxA:=dA hb1 bA;have hs2:w.heap.size < w2.heap.size:=Nat.lt_of_lt_of_le hsx hb1.size;have hlA:w2.heap.size < (w2.alloc OF).heap.size:=by simp
 have HQ1:=hid (And.intro hq1 bA);clear hq1 hb1 bA;generalize hwA:w2.alloc OF=wA at *;rw [hOF] at A1;have hne:w2.heap.size≠w.heap.size:=by omega
 obtain⟨f1,f2,_,_⟩:=YB A1;have x2:=(bxA.block _ hsx).trans x1;obtain⟨y1,y2,y3,y4⟩:=YB x2;have HX2:=hid x2;have HB:=hid (dA bx bxA);clear hOF x1 x2 hwA bxA;cases r with
 | bad e0 a0 =>
  obtain⟨h1,h2⟩:=HE.out;have hne0:e0≠0:=QP gM HR.out.symm;have h3:er=e0:=h1;have h4:ea=a0:=h2;subst h3;subst h4;have k1:(er==0)=false:=by simpa using hne0
  have k2:((er:Int)==0)=false:=by simp;omega
  have k3:(er != 0)=true:=by simpa using hne0
  have k4:((er:Int) != 0)=true:=by simp;omega
  clear h1 h2 hne0;go_wp2_with fail;go_region;go_wp2_with fail;obtain⟨x2',hfs⟩:=ON HX2.out (.int .i64 (er:Int)) (.int .i64 (ea:Int));obtain⟨u1,u2,_,_⟩:=YB x2';have hbz:=(GD hfs HB.out (fun x hx=>by simp at hx;omega)).drew;have u1:((wA.setCell ⟨w.heap.size,0,none⟩ (.int .i64 (er:Int))).setCell ⟨w.heap.size,1,none⟩ (.int .i64 (ea:Int))).drew.cell? ⟨w.heap.size,0,none⟩=some (.int .i64 (er:Int)):=u1;have u2:((wA.setCell ⟨w.heap.size,0,none⟩ (.int .i64 (er:Int))).setCell ⟨w.heap.size,1,none⟩ (.int .i64 (ea:Int))).drew.cell? ⟨w.heap.size,1,none⟩=some (.int .i64 (ea:Int)):=u2;generalize ((wA.setCell ⟨w.heap.size,0,none⟩ (.int .i64 (er:Int))).setCell ⟨w.heap.size,1,none⟩ (.int .i64 (ea:Int))).drew=W9 at *;refine bodyPost_ret (v:=.tuple #[.slice none 0 0,.agg #[.int .i64 (er:Int),.int .i64 (ea:Int)]]) ?_ rfl ?_
  ·simp [results,Tryz.results25,go_sem,u1,u2]
  exact⟨_,rfl,rfl,hbz⟩
 | ok l t =>
  obtain⟨h1,h2⟩:=HE.out;have h3:er=0:=h1;have h4:ea=0:=h2;subst h3;subst h4;clear h1 h2;have q1:w2.ownsRow wx.heap.size 39 3 (.slice pa pn pc) (parts ⟨s,l,[]⟩ t).length (CF (parts ⟨s,l,[]⟩ t)):=HQ1.out.1;have e1:pn=(parts ⟨s,l,[]⟩ t).length:=by
   obtain⟨_,_,e⟩:=Grd.ID q1;cases e;rfl
  subst e1;have hPA:tB wA pa (oE s l t):=qP (bF q1 HQ1.out.2) rfl;have e1:(parts ⟨s,l,[]⟩ t).length=(oE s l t).length:=by unfold oE;rw [List.length_map]
  obtain⟨hc,hl,hw⟩:=XU HR.out.symm;rw [e1];have HF:=hid (kP pa pc hPA hl hw (HT.out.below HB.out) hc);clear hPA hc hl hw q1;go_wp2_with fail;refine HF.out.mono ?_;rintro e w5 ⟨vo,rfl,hown,hb5⟩;have f1:=aA hb5 f1;have f2:=aA hb5 f2;have y1:=aA hb5 y1;have y2:=aA hb5 y2;have hlw:w.heap.size < wA.heap.size:=World.block_lt_of_cell? wA ⟨w.heap.size,0,none⟩ ‹_›;have y3:w5.frozen? ⟨w.heap.size,0,none⟩=false:=by rw [World.frozen?_of_block (a:=⟨w.heap.size,0,none⟩) (hb5.block _ hlw)];assumption
  have y4:w5.frozen? ⟨w.heap.size,1,none⟩=false:=by rw [World.frozen?_of_block (a:=⟨w.heap.size,1,none⟩) (hb5.block _ hlw)];assumption
  have HO:=hid (And.intro hown hb5);obtain⟨oa,oc,rfl⟩:=Grd.ID hown;clear hown hb5 HF;go_wp2_with fail;go_region;go_wp2_with fail;obtain⟨x2',hfs⟩:=ON ((HO.out.2.block _ hlw).trans HX2.out) (.int .i64 0) (.int .i64 0);obtain⟨u1,u2,_,_⟩:=YB x2';have hbz:=(GD hfs (dA HB.out HO.out.2) (fun x hx=>by simp at hx;omega)).drew;have hoz:=World.ownsRow.drew ((qD HO.out.1 hfs (fun x hx=>by
   simp at hx;subst hx;intro e;have:=(HO.out.1.lt _ e).1;omega)).mono (show w.heap.size≤wA.heap.size by omega))
  have u1:((w5.setCell ⟨w.heap.size,0,none⟩ (.int .i64 0)).setCell ⟨w.heap.size,1,none⟩ (.int .i64 0)).drew.cell? ⟨w.heap.size,0,none⟩=some (.int .i64 0):=u1;have u2:((w5.setCell ⟨w.heap.size,0,none⟩ (.int .i64 0)).setCell ⟨w.heap.size,1,none⟩ (.int .i64 0)).drew.cell? ⟨w.heap.size,1,none⟩=some (.int .i64 0):=u2;generalize ((w5.setCell ⟨w.heap.size,0,none⟩ (.int .i64 0)).setCell ⟨w.heap.size,1,none⟩ (.int .i64 0)).drew=W9 at *;generalize hFLL:(AA (oE s l t) (oE s l t).length).length=FLL at *;refine bodyPost_ret (v:=.tuple #[.slice oa FLL oc,.agg #[.int .i64 0,.int .i64 0]]) ?_ rfl ?_
  ·simp [results,Tryz.results25,go_sem,u1,u2]
  exact⟨_,rfl,by unfold FX;simp only [];rw [hFLL];exact hoz,hbz⟩
end Shp
namespace Shp
open Go.RowKit
open Grd (Pt tB)
def jN (goal:UInt8) (s:List UInt8):Option (List (Nat × Nat)):=match tD kE goal s with|.ok l t=>some (AA (oE s l t) (oE s l t).length)|.bad _ _=>none
theorem fx1:jN 3 [120]=some [(11,1)]:=by kernel_rfl
theorem fx2:jN 1 [102,117,110,99,40,97,46,98,44,32,99,32,105,110,116,41]=some [(3,3)]:=by kernel_rfl
theorem fx3:jN 2 [91,46,46,46,93,105,110,116,123,49,125]=some []:=by kernel_rfl
theorem nR {goal:UInt8}{s:List UInt8}{x:List (Nat × Nat)} (h:jN goal s=some x):∃ l t,tD kE goal s=.ok l t∧AA (oE s l t) (oE s l t).length=x:=by
 unfold jN at h;split at h
 ·rename_i l t hr;exact⟨l,t,hr,by simpa using h⟩
 ·cases h
end Shp
namespace Shp
open Go.RowKit
open Grd (Pt tB)
variable {w:World}
def sV (w:World) (a:Option Addr) (l:List (Nat × Nat)):Prop :=
 l=[]∨∃ b off,a=some ⟨b,off,none⟩∧b < w.heap.size∧∀ j p,l[j]?=some p →
  w.cell? ⟨b,off+j*2,none⟩=some (.int .u8 (p.1:Int))∧w.cell? ⟨b,off+j*2+1,none⟩=some (.int .i64 (p.2:Int))
theorem zE {b:Nat}{w w':World}{p:Addr}{v:Value} (hb:Below b w w') (hp:p.block < b) (h:w.cell? p=some v):w'.cell? p=some v:=by rw [hb.cell hp];exact h
theorem ZS (x o y u c1 c2:Nat) (a:List (Nat × Nat)) (hl:a.length≤1099511627776) (hx:x < w.heap.size) (hy:y < w.heap.size)
  (ha:∀ j p,a[j]?=some p→w.cell? ⟨x,o+j*2,none⟩=some (.int .u8 (p.1:Int))∧w.cell? ⟨x,o+j*2+1,none⟩=some (.int .i64 (p.2:Int)))
  (hb:∀ j p,a[j]?=some p→w.cell? ⟨y,u+j*2,none⟩=some (.int .u8 (p.1:Int))∧w.cell? ⟨y,u+j*2+1,none⟩=some (.int .i64 (p.2:Int))) :
  Calls Tryz.prog 16 #[.slice (some ⟨x,o,none⟩) a.length c1,.slice (some ⟨y,u,none⟩) a.length c2] w fun e w'=>e=.returned (.bool true)∧Below w.heap.size w w':=by
 have HA:=hid (And.intro ha hb);clear ha hb;go_enter Tryz.func16,Tryz.ntmps16;go_wp2_with fail
 go_loopw [5] (fun v w'=>∃ i:Nat,v=.int .i64 (i:Int)∧i≤a.length∧Below w.heap.size w w') (fun v _=>((a.length:Int) - intOf v).toNat)
 case atStart=>exact⟨0,rfl,by omega,Below.refl _ _⟩
 case round =>
  obtain⟨i,rfl,hi,hbel⟩:=hrel;by_cases hlt:i < a.length
  ·obtain⟨p0,p1⟩:=HA.out.1 i a[i] (List.getElem?_eq_getElem hlt);obtain⟨q0,q1⟩:=HA.out.2 i a[i] (List.getElem?_eq_getElem hlt);have p0:=zE hbel hx p0;have p1:=zE hbel hx p1;have q0:=zE hbel hy q0;have q1:=zE hbel hy q1;generalize a[i]=p at *;have i0:(0:Int)≤(i:Int):=by omega
   have i1:(i:Int) < (a.length:Int):=by omega
   obtain⟨k1,n1⟩:=p;simp only [] at p0 p1 q0 q1;go_wp2_with fail
   go_region_held3 (fun w'=>w'.cell? ⟨x,o+i*2,none⟩=some (.int .u8 (k1:Int))∧w'.cell? ⟨x,o+i*2+1,none⟩=some (.int .i64 (n1:Int))∧w'.cell? ⟨y,u+i*2,none⟩=some (.int .u8 (k1:Int))∧w'.cell? ⟨y,u+i*2+1,none⟩=some (.int .i64 (n1:Int))) (go_keep) (first|fail)
   go_wp2_with fail;go_roundw
   case rel=>exact⟨i+1,by go_num,by omega,hbel.drew⟩
   case measure=>simp only [intOf];first|omega|(go_num;omega)|go_num
  ·have:i=a.length:=by omega
   subst this;go_wp2_with fail;go_ret;exact⟨rfl,hbel⟩
theorem sK (xa ya:Option Addr) (c1 c2:Nat) (a:List (Nat × Nat)) (hl:a.length≤1099511627776) (ha:sV w xa a) (hb:sV w ya a) :
  Calls Tryz.prog 16 #[.slice xa a.length c1,.slice ya a.length c2] w fun e w'=>e=.returned (.bool true)∧Below w.heap.size w w':=by
 rcases ha with h|⟨b,off,rfl,hlt,hc⟩
 ·subst h;go_enter Tryz.func16,Tryz.ntmps16;go_wp2_with fail;refine wp_loop_rounds 1 ?_;rw [rounds_succ];go_wp2_with fail;go_ret;exact⟨rfl,Below.refl _ _⟩
 ·rcases hb with h|⟨b2,off2,rfl,hlt2,hc2⟩
  ·subst h;go_enter Tryz.func16,Tryz.ntmps16;go_wp2_with fail;refine wp_loop_rounds 1 ?_;rw [rounds_succ];go_wp2_with fail;go_ret;exact⟨rfl,Below.refl _ _⟩
  ·exact ZS b off b2 off2 c1 c2 a hl hlt hlt2 hc hc2
end Shp
end Go.Proofs.YtcjmpafkcmlhbaaGreatDoor
