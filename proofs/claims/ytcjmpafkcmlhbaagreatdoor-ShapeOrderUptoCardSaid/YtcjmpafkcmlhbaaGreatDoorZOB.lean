import Derived.Test.YtcjmpafkcmlhbaaGreatDoorZOA
import Derived.BigQuiet
import Derived.Deep.QuietTactic
import Derived.Deep.Slices
import Derived.Deep.Fields
import Derived.ChangeSame
import Derived.Carry
import Derived.ChangeArms
import Derived.Test.YtcjmpafkcmlhbaaGreatDoorQBN
import Derived.Test.YtcjmpafkcmlhbaaGreatDoorQAG
namespace Go.Proofs.YtcjmpafkcmlhbaaGreatDoor
open _root_.Go.Lib(hid)
set_option linter.all false
set_option maxHeartbeats 40000000
set_option maxRecDepth 100000
namespace Shp
open Go.RowKit
open Grd (Pt tB)
variable {w:World}
theorem QQ {lo n:Nat}{a:Option Addr}{cap:Nat}:∀ {l:List (Nat × Nat)},w.ownsRow lo 41 2 (.slice a n cap) n (EI l)→sV w a l:=by
 intro l h;by_cases h0:l=[]
 ·subst h0;exact .inl rfl
 right
 have hp:0 < l.length:=List.length_pos_iff.2 h0;have hat:∀ (l:List (Nat × Nat)) (j:Nat) (x:Nat × Nat),l[j]?=some x→∀ i v,(flV x)[i]?=some v→(EI l)[j*2+i]?=some v:=by
  intro l
  induction l with
  | nil=>intro j x hx;simp at hx
  | cons y l ih =>
   intro j x hx i v hv;have hl:(flV y).length=2:=rfl;have e:EI (y::l)=flV y++EI l:=rfl;cases j with
   | zero =>
    simp at hx;subst hx;have hi:i < 2:=by rw [← hl];exact (List.getElem?_eq_some_iff.1 hv).1
    rw [e,List.getElem?_append_left (by rw [hl];omega),show 0*2+i=i by omega];exact hv
   | succ j =>
    rw [e,List.getElem?_append_right (by rw [hl];omega),hl,show (j+1)*2+i - 2=j*2+i by omega];exact ih j x (by simpa using hx) i v hv
 have key:∀ (j:Nat) (x:Nat × Nat),l[j]?=some x→∀ i v,(flV x)[i]?=some v→∃ b,a=some ⟨b,0,none⟩∧b < w.heap.size∧w.cell? ⟨b,j*2+i,none⟩=some v:=fun j x hx i v hv=>by
  obtain⟨b,e,_,hb,hc⟩:=GA h (hat l j x hx i v hv);exact⟨b,e,hb,hc⟩
 obtain⟨b,e,hb,_⟩:=key 0 l[0] (List.getElem?_eq_getElem hp) 0 _ rfl;refine⟨b,0,e,hb,fun j x hx=>?_⟩;obtain⟨_,e0,_,c0⟩:=key j x hx 0 _ rfl;obtain⟨_,e1,_,c1⟩:=key j x hx 1 _ rfl;rw [e] at e0 e1;cases e0;cases e1;rw [Nat.zero_add];exact⟨c0,c1⟩
theorem fV (w:World) (b r p:Nat) (h:w.heap[b]?=some (.cells #[.int .u8 (r:Int),.int .i64 (p:Int)] 41 (0,0))):sV w (some ⟨b,0,none⟩) [(r,p)]:=by
 refine .inr ⟨b,0,rfl,RA h,fun j x hj=>?_⟩;have hl:j < 1:=(List.getElem?_eq_some_iff.1 hj).1;have hc:j=0:=by omega
 unfold World.cell?;rw [h];subst hc;cases hj;exact⟨rfl,rfl⟩
def SN (x:List (Nat × Nat)) (w:World) (e:Ending) (w':World):Prop:=∃ a c,e=.returned (.tuple #[.slice a x.length c,.agg #[.int .i64 0,.int .i64 0]])∧w'.ownsRow w.heap.size 41 2 (.slice a x.length c) x.length (EI x)∧Below w.heap.size w w'
theorem zO {goal:UInt8}{s:List UInt8}{x:List (Nat × Nat)} (h:jN goal s=some x) (w:World) (hT:NC w):Calls Tryz.prog 25 #[.int .u8 (goal.toNat:Int),.string ⟨s.toArray⟩] w (SN x w):=by
 obtain⟨l,t,hr,hx⟩:=nR h;have h1:=bU goal s hT;rw [hr] at h1;refine h1.mono ?_;rintro e w2 ⟨v,rfl,hq,hb⟩;have hq:w2.ownsRow w.heap.size 41 2 v (AA (oE s l t) (oE s l t).length).length (EI (AA (oE s l t) (oE s l t).length)):=hq;rw [hx] at hq;obtain⟨a,c,rfl⟩:=Grd.ID hq;exact⟨a,c,rfl,hq,hb⟩
theorem tJ (hT:NC w):Calls Tryz.prog 13 #[] w (fun e w'=>e=.returned (.bool true)∧Below w.heap.size w w'):=by
 have H1:∀ w,NC w→Calls Tryz.prog 25 #[.int .u8 3,.string ⟨#[120]⟩] w (SN [(11,1)] w):=fun w h=>zO fx1 w h
 have H2:∀ w,NC w→Calls Tryz.prog 25 #[.int .u8 1,.string ⟨#[102,117,110,99,40,97,46,98,44,32,99,32,105,110,116,41]⟩] w (SN [(3,3)] w):=fun w h=>zO fx2 w h
 have H3:∀ w,NC w→Calls Tryz.prog 25 #[.int .u8 2,.string ⟨#[91,46,46,46,93,105,110,116,123,49,125]⟩] w (SN [] w):=fun w h=>zO fx3 w h
 have HT:=hid hT;have HH1:=hid H1;have HH2:=hid H2;have HH3:=hid H3;clear hT H1 H2 H3;go_enter Tryz.func13,Tryz.ntmps13;go_upto_region 1 with fail;go_wp2_with fail;refine (HH1.out _ HT.out).mono ?_;rintro e w1 ⟨a1,c1,rfl,hr1,hb1⟩;have HR1:=hid (And.intro hr1 hb1);clear hr1 hb1;go_upto_region 2 with fail;have h2:=heap_alloc_new w1 (Obj.cells #[.int .i64 0,.int .i64 0] 25);have b2:=(Below.refl w1.heap.size w1).alloc (Nat.le_refl _) (Obj.cells #[.int .i64 0,.int .i64 0] 25);have s2:w1.heap.size < (w1.alloc (Obj.cells #[.int .i64 0,.int .i64 0] 25)).heap.size:=by simp
 have HB2:=hid (dA HR1.out.2 b2);have HO2:=hid (qD HR1.out.1 (Fr.below (X:=[]) b2) (by simp));clear b2 HR1;generalize w1.alloc (Obj.cells #[.int .i64 0,.int .i64 0] 25)=wA at *;go_wp2_with fail;refine (HH2.out _ (HT.out.below HB2.out)).mono ?_;rintro e w2 ⟨a2,c2,rfl,hr2,hb2⟩;have h2:=(hb2.block _ s2).trans h2;have l2:=Nat.lt_of_lt_of_le s2 hb2.size;have HB3:=hid (dA HB2.out hb2);have HO3:=hid (And.intro (qD HO2.out (Fr.below (X:=[]) hb2) (by simp)) hr2);clear hr2 hb2 s2 HB2 HO2;go_upto_region 3 with fail;have h4:=heap_alloc_new w2 (Obj.cells #[.int .i64 0,.int .i64 0] 25);have b4:=(Below.refl w2.heap.size w2).alloc (Nat.le_refl _) (Obj.cells #[.int .i64 0,.int .i64 0] 25);have s4:w2.heap.size < (w2.alloc (Obj.cells #[.int .i64 0,.int .i64 0] 25)).heap.size:=by simp
 have h2:=(b4.block _ l2).trans h2;have HB4:=hid (dA HB3.out b4);have HO4:=hid (And.intro (qD HO3.out.1 (Fr.below (X:=[]) b4) (by simp)) (qD HO3.out.2 (Fr.below (X:=[]) b4) (by simp)));clear b4 HB3 HO3;generalize w2.alloc (Obj.cells #[.int .i64 0,.int .i64 0] 25)=wB at *;go_wp2_with fail;refine (HH3.out _ (HT.out.below HB4.out)).mono ?_;rintro e w3 ⟨a3,c3,rfl,-,hb3⟩;have h2:=(hb3.block _ (Nat.lt_trans l2 s4)).trans h2;have h4:=(hb3.block _ s4).trans h4;have l4:=Nat.lt_of_lt_of_le s4 hb3.size;have HB5:=hid (dA HB4.out hb3);have HO5:=hid (And.intro (qD HO4.out.1 (Fr.below (X:=[]) hb3) (by simp)) (qD HO4.out.2 (Fr.below (X:=[]) hb3) (by simp)));clear hb3 s4 HB4 HO4;go_upto_region 4 with fail;have h6:=heap_alloc_new w3 (Obj.cells #[.int .i64 0,.int .i64 0] 25);have b6:=(Below.refl w3.heap.size w3).alloc (Nat.le_refl _) (Obj.cells #[.int .i64 0,.int .i64 0] 25);have h2:=(b6.block _ (Nat.lt_trans l2 l4)).trans h2;have h4:=(b6.block _ l4).trans h4;have HB6:=hid (dA HB5.out b6);have HO6:=hid (And.intro (qD HO5.out.1 (Fr.below (X:=[]) b6) (by simp)) (qD HO5.out.2 (Fr.below (X:=[]) b6) (by simp)));clear b6 HB5 HO5;generalize w3.alloc (Obj.cells #[.int .i64 0,.int .i64 0] 25)=wC at *;obtain⟨g1,g2,_,_⟩:=YB h2;obtain⟨g3,g4,_,_⟩:=YB h4;obtain⟨g5,g6,_,_⟩:=YB h6;clear HH1 HH2 HH3;clear h2 h4 h6;go_wp2_with fail;have k1:=heap_alloc_new wC (Obj.cells #[.int .u8 11,.int .i64 1] 41);have d1:=(Below.refl wC.heap.size wC).alloc (Nat.le_refl _) (Obj.cells #[.int .u8 11,.int .i64 1] 41);have HB7:=hid (dA HB6.out d1);have HO7:=hid (And.intro (qD HO6.out.1 (Fr.below (X:=[]) d1) (by simp)) (qD HO6.out.2 (Fr.below (X:=[]) d1) (by simp)));clear d1 HB6 HO6;generalize wC.alloc (Obj.cells #[.int .u8 11,.int .i64 1] 41)=wD at *;refine (sK (w:=wD) a1 (some ⟨wC.heap.size,0,none⟩) c1 1 [(11,1)] (by decide) (QQ HO7.out.1) (fV wD _ 11 1 k1)).mono ?_;rintro e w4 ⟨rfl,hb4⟩;have HB8:=hid (dA HB7.out hb4);have HO8:=hid (qD HO7.out.2 (Fr.below (X:=[]) hb4) (by simp));clear k1 hb4 HB7 HO7;go_wp2_with fail;have k2:=heap_alloc_new w4 (Obj.cells #[.int .u8 3,.int .i64 3] 41);have d2:=(Below.refl w4.heap.size w4).alloc (Nat.le_refl _) (Obj.cells #[.int .u8 3,.int .i64 3] 41);have HB9:=hid (dA HB8.out d2);have HO9:=hid (qD HO8.out (Fr.below (X:=[]) d2) (by simp));clear d2 HB8 HO8;generalize w4.alloc (Obj.cells #[.int .u8 3,.int .i64 3] 41)=wE at *;refine (sK (w:=wE) a2 (some ⟨w4.heap.size,0,none⟩) c2 1 [(3,3)] (by decide) (QQ HO9.out) (fV wE _ 3 3 k2)).mono ?_;rintro e w5 ⟨rfl,hb5⟩;have HBA:=hid (dA HB9.out hb5);clear k2 hb5 HB9 HO9;go_wp2_with fail;go_ret;exact⟨rfl,HBA.out⟩
end Shp
namespace Shp
open Go.RowKit
open Grd (Pt tB)
def VX (a b:Nat × Nat):Prop:=a.2 < b.2∨a.2=b.2∧a.1 < b.1
theorem fK {l:List Pt}{i r:Nat}{x:Nat × Nat} (h:x∈iB l i r):x.2=i∧1≤x.1∧x.1≤r:=by
 unfold iB at h;obtain⟨k,hk,rfl⟩:=List.mem_map.1 h;have:=List.mem_range.1 (List.mem_filter.1 hk).1;exact⟨rfl,by simp,by simp;omega⟩
theorem jY {l:List Pt}{n:Nat}{x:Nat × Nat} (h:x∈AA l n):x.2 < n∧1≤x.1∧x.1≤15:=by
 unfold AA at h;obtain⟨i,hi,hx⟩:=List.mem_flatMap.1 h;have:=List.mem_range.1 hi;obtain⟨h1,h2,h3⟩:=fK hx;exact⟨by omega,h2,h3⟩
theorem aT (l:List Pt) (n:Nat):(AA l n).Pairwise VX:=by
 unfold AA;rw [List.pairwise_flatMap];refine⟨fun i _=>?_,?_⟩
 ·unfold iB;rw [List.pairwise_map];exact (List.pairwise_lt_range.sublist List.filter_sublist).imp fun h=>.inr ⟨rfl,by simp;omega⟩
 ·refine List.pairwise_lt_range.imp fun {a b} hab x hx y hy=>?_
  have h1:=(fK hx).1;have h2:=(fK hy).1;exact .inl (by omega)
theorem vW {l:List Pt}{n j:Nat}{x y:Nat × Nat} (hx:(AA l n)[j]?=some x) (hy:(AA l n)[j+1]?=some y):VX x y:=by
 obtain⟨h1,e1⟩:=List.getElem?_eq_some_iff.1 hx;obtain⟨h2,e2⟩:=List.getElem?_eq_some_iff.1 hy;have:=List.pairwise_iff_getElem.1 (aT l n) j (j+1) h1 h2 (by omega)
 rwa [e1,e2] at this
theorem CY (l:List Pt) (n:Nat):(AA l n).length≤15*n:=by
 induction n with
 | zero=>simp [AA]
 | succ n ih =>
  have h1:AA l (n+1)=AA l n++iB l n 15:=by simp [AA,List.range_succ]
  have h2:(iB l n 15).length≤15:=by
   unfold iB;rw [List.length_map];exact Nat.le_trans (List.length_filter_le _ _) (by simp)
  rw [h1,List.length_append];omega
end Shp
namespace Shp
open Go.RowKit
open Grd (Pt tB)
variable {w:World}{l:List Pt}
theorem gU (a:Option Addr) (cap:Nat) (hp:tB w a l) (hl:l.length≤100000000) (hw:∀ p∈l,p.w.length≤1048576) (hT:NC w) (hc:fF l=false) :
  Calls Tryz.prog 6 #[.slice a l.length cap] w fun e w'=>e=.returned (.bool true)∧Below w.heap.size w w':=by
 have HF:=hid (WS a cap hp hl hw hT hc);have HC:=hid (fun (w':World) (hb:Below w.heap.size w w')=>qF a cap l (by omega) (hp.later hb) hw (hT.below hb));rw [hc,if_neg (by decide)] at HC;have HX:=hid (fun (w':World) (hb:Below w.heap.size w w')=>tJ (hT.below hb));clear hp hw hT hc;go_enter Tryz.func6,Tryz.ntmps6;go_wp2_with fail;refine HF.out.mono ?_;rintro e w1 ⟨rfl,hb1⟩;go_wp2_with fail;refine (HX.out _ hb1).mono ?_;rintro e w2 ⟨rfl,hb2⟩;have hb12:=dA hb1 hb2;clear hb1 hb2;go_wp2_with fail;refine (HC.out _ hb12).mono ?_;rintro e w3 ⟨rfl,hb3⟩;have hb13:=dA hb12 hb3;clear hb12 hb3;go_wp2_with fail;go_ret;exact⟨rfl,hb13⟩
theorem uU (a:Option Addr) (cap:Nat) (hp:tB w a l) (hl:l.length≤100000000) (hw:∀ p∈l,p.w.length≤1048576) (hT:NC w) (hc:fF l=true) :
  Calls Tryz.prog 6 #[.slice a l.length cap] w fun e w'=>e=.returned (.bool true)∧Below w.heap.size w w':=by
 have HF:=hid (kP a cap hp hl hw hT hc);have HC:=hid (fun (w':World) (hb:Below w.heap.size w w')=>qF a cap l (by omega) (hp.later hb) hw (hT.below hb));rw [hc,if_pos rfl] at HC;have HX:=hid (fun (w':World) (hb:Below w.heap.size w w')=>tJ (hT.below hb));have HM:=hid (And.intro (fun x (h:x∈AA l l.length)=>jY h) (fun j x y hx hy=>vW (l:=l) (n:=l.length) (j:=j) (x:=x) (y:=y) hx hy));have hfl:(AA l l.length).length≤1600000000:=Nat.le_trans (CY l l.length) (by omega);clear hp hw hT hc;go_enter Tryz.func6,Tryz.ntmps6;go_wp2_with fail;generalize AA l l.length=FL at *;refine HF.out.mono ?_;rintro e w1 ⟨vo,rfl,hown,hb1⟩;obtain⟨oa,oc,rfl⟩:=Grd.ID hown;have hAt:=QQ hown;have HB1:=hid hb1;clear hown hb1 HF;generalize hn:l.length=n at *;have HA:Hid (sV w1 oa FL):=hid hAt;clear hAt;go_upto_region 4 with fail;go_wp2_with fail
 go_loopw [5] (fun v w'=>∃ i:Nat,v=.int .i64 (i:Int)∧i≤FL.length∧Below w1.heap.size w1 w') (fun v _=>((FL.length:Int) - intOf v).toNat)
 case atStart=>exact⟨0,rfl,by omega,Below.refl _ _⟩
 case round =>
  obtain⟨i,rfl,hi,hbel⟩:=hrel;by_cases hlt:i < FL.length
  ·rcases HA.out with h0|⟨b,off,rfl,hbl,hc⟩
   ·subst h0;simp at hlt
   obtain⟨p0,p1⟩:=hc i FL[i] (List.getElem?_eq_getElem hlt);have p0:=zE hbel hbl p0;have p1:=zE hbel hbl p1;have hx:=HM.out.1 FL[i] (List.getElem_mem hlt);have i0:(0:Int)≤(i:Int):=by omega
   have i1:(i:Int) < (FL.length:Int):=by omega
   have HXI:=hid (List.getElem?_eq_getElem hlt);generalize FL[i]=x at *;obtain⟨k1,n1⟩:=x;simp only [] at p0 p1 hx;go_upto_region 8 with fail;have A1:=heap_alloc_new wr (Obj.cells #[.int .u8 (k1:Int),.int .i64 (n1:Int)] 41);have bA:=(Below.refl wr.heap.size wr).alloc (Nat.le_refl _) (Obj.cells #[.int .u8 (k1:Int),.int .i64 (n1:Int)] 41);have hbA:=dA hbel bA;generalize wr.alloc (Obj.cells #[.int .u8 (k1:Int),.int .i64 (n1:Int)] 41)=wA at *;obtain⟨g1,g2,_,_⟩:=YB A1;clear p0 p1 A1 bA;have d1:decide ((n1:Int) < 0)=false:=by simp
   have d2:decide ((n:Int)≤(n1:Int))=false:=by simp;omega
   have d3:decide ((k1:Int) < 1)=false:=by simp;omega
   have d4:decide ((15:Int) < (k1:Int))=false:=by simp;omega
   go_upto_region 10 with fail;rcases Nat.eq_zero_or_pos i with hz|hz
   ·have d5:decide ((0:Int) < (i:Int))=false:=by simp;omega
    clear hc;go_big_quiet (fail);go_wp2_with fail;go_roundw
    case rel=>exact⟨i+1,by go_num,by omega,Go.below_drewN hbA _⟩
    case measure=>simp only [intOf];first|omega|(go_num;omega)|go_num
   ·obtain⟨m,hmi⟩:∃ m,i=m+1:=⟨i - 1,by omega⟩;have hm:m < FL.length:=by omega
    obtain⟨r0,r1⟩:=hc m FL[m] (List.getElem?_eq_getElem hm);have hlt2:=HM.out.2 m FL[m] (k1,n1) (List.getElem?_eq_getElem hm) (by rw [← hmi];exact HXI.out);have r0:=zE hbA hbl r0;have r1:=zE hbA hbl r1;generalize FL[m]=y at *;obtain⟨k0,n0⟩:=y;simp only [] at r0 r1;unfold VX at hlt2;simp only [] at hlt2;have d5:decide ((0:Int) < (i:Int))=true:=by simp;omega
    have z1:IntKind.i64.wrap ((i:Int) - 1)=(m:Int):=by simp [IntKind.wrap,IntKind.bits,IntKind.signed];omega
    have z2:(0:Int)≤(m:Int):=by omega
    have z3:(m:Int) < (FL.length:Int):=by omega
    have d6:decide (n1 < n0)=false:=by simp;omega
    have HMI:=hid hmi;clear hc hmi;by_cases hq:n0=n1
    ·have d7:((n0:Int)==(n1:Int))=true:=by simp;omega
     have d9:(n0==n1)=true:=by simp;omega
     have d8:decide (k1≤k0)=false:=by simp;omega
     clear hlt2 hq;go_big_quiet (fail);go_wp2_with fail;go_roundw
     case rel=>exact⟨i+1,by go_num,by omega,Go.below_drewN hbA _⟩
     case measure=>simp only [intOf];first|omega|(go_num;omega)|go_num
    ·have d7:((n0:Int)==(n1:Int))=false:=by simp;omega
     have d9:(n0==n1)=false:=by simp;omega
     clear hlt2 hq;go_big_quiet (fail);go_wp2_with fail;go_roundw
     case rel=>exact⟨i+1,by go_num,by omega,Go.below_drewN hbA _⟩
     case measure=>simp only [intOf];first|omega|(go_num;omega)|go_num
  ·have:i=FL.length:=by omega
   subst this;go_wp2_with fail;refine (HX.out _ (dA HB1.out hbel)).mono ?_;rintro e w2 ⟨rfl,hb2⟩;have hb12:=dA (dA HB1.out hbel) hb2;clear hb2;go_wp2_with fail;refine (HC.out _ hb12).mono ?_;rintro e w3 ⟨rfl,hb3⟩;have hb13:=dA hb12 hb3;clear hb12 hb3;go_wp2_with fail;go_ret;exact⟨rfl,hb13⟩
theorem NT (a:Option Addr) (cap:Nat) (hp:tB w a l) (hl:l.length≤100000000) (hw:∀ p∈l,p.w.length≤1048576) (hT:NC w) :
  Calls Tryz.prog 6 #[.slice a l.length cap] w fun e w'=>e=.returned (.bool true)∧Below w.heap.size w w':=by
 cases hc:fF l with
 | true=>exact uU a cap hp hl hw hT hc
 | false=>exact gU a cap hp hl hw hT hc
end Shp
section
open Go.ChangeShapes Go.WideShapes Go.ChangeAt Go.RowKit Go.WideMaps Go.Joins Go.Deep Grd
section
variable {H:Type}{enc:TypeId × Value→H}{P:Program}{w:World}{base:Nat}{spare:Nat→Bool}{held:Bool}
theorem RJ {t e:TypeId}{fs:Array Field}{fuel:Nat}{cs:List Value}{x:DataW H × List MemPlace} (ht:P.underlying t=some (.slice e)) (he:P.underlying e=some (.struct fs))
  (hone:oneCellFields P fs=true) (hC:P.cellsOf e=fs.size) (h:DataW.trod enc P w base spare held fuel t cs=some x) :
  (cs=[.slice none 0 0]∧x=(.nil,[])) ∨
  ∃ (a:Addr) (len cap m:Nat) (D:Nat→DataW H) (Pl:Nat→List MemPlace),cs=[.slice (some a) len cap]∧base≤a.block∧len≤cap∧cap≤maxLen∧m=(if spare a.block then cap else len) ∧
   x=(.slice ((List.range len).map D) ((List.range (m - len)).map fun j=>D (len+j)),MemPlace.row a (m*fs.size)++(List.range m).flatMap Pl) ∧
   ∀ i,i < m→∃ (ys:List (DataW H × List MemPlace)) (n:Nat),D i=.agg (ys.map (·.1))∧Pl i=ys.flatMap (·.2)∧ys.length=fs.size ∧
    ∀ (j:Nat) (f:Field),fs[j]?=some f→∃ (v:Value) (y:DataW H × List MemPlace),w.cell? (a.add (i*fs.size+j))=some v∧ys[j]?=some y∧DataW.trod enc P w base spare held n f.type [v]=some y:=by
 rcases open_slice ht h with h0|⟨a,len,cap,m,n,D,Pl,hcs,hb,hl,hm,hmm,hx,hi⟩
 ·exact .inl h0
 ·refine .inr ⟨a,len,cap,m,D,Pl,hcs,hb,hl,hm,hmm,by rw [hC] at hx;exact hx,fun i him=>?_⟩;obtain⟨cs',hc,ht'⟩:=hi i him;rw [hC] at hc;obtain⟨ys,n',hn',hy,hlen,hyl,hf⟩:=DataW.trod_struct he ht';obtain⟨_,hcl,hat⟩:=World.cells?_some hc;simp only [Prod.mk.injEq] at hy;refine⟨ys,n',hy.1,hy.2,hyl,fun j f hj=>?_⟩;obtain⟨ho,hk⟩:=hone_of hone j f hj;have hjl:j < fs.size:=(Array.getElem?_eq_some_iff.1 hj).1;have hcell:=hat j hjl;have hv:cs'[j]?=some (cs'[j]'(by omega)):=List.getElem?_eq_getElem (by omega);have h1:=hf j f hj;rw [ho,hk] at h1;have hone':(cs'.drop j).take 1=[cs'[j]'(by omega)]:=by
   rw [List.drop_eq_getElem_cons (by omega)]
   rfl
  rw [hone'] at h1;have hys:ys[j]?=some (ys[j]'(by omega)):=List.getElem?_eq_getElem (by omega);refine⟨_,_,?_,hys,h1.trans hys⟩;rw [← Go.Deep.add_add,hcell,hv]
end
section
variable {H:Type}{enc:TypeId × Value→H}{W:World}{sp:Nat→Bool}{held:Bool}
def ptD (H:Type) (p:Pt):DataW H:=.agg [.lit (.int .u8 p.k.toNat),.lit (.int .i64 p.n),.lit (.string p.w)]
theorem LS {α:Type} (P:Nat→α→Prop):∀ n:Nat,(∀ i,i < n→∃ p,P i p)→∃ l:List α,l.length=n∧∀ i p,l[i]?=some p→P i p
 | 0,_=>⟨[],rfl,fun i p h=>by simp at h⟩
 | n+1,h=>by
  obtain⟨l,hl,hp⟩:=LS P n (fun i hi=>h i (by omega));obtain⟨q,hq⟩:=h n (by omega);refine⟨l++[q],by simp [hl],fun i p hi=>?_⟩;by_cases hin:i < l.length
  ·rw [List.getElem?_append_left hin] at hi;exact hp i p hi
  ·rw [List.getElem?_append_right (by omega)] at hi;have:i - l.length=0:=by
    rcases Nat.eq_zero_or_pos (i - l.length) with e|e
    ·exact e
    ·rw [List.getElem?_eq_none (by simp;omega)] at hi;cases hi
   rw [this] at hi;simp only [List.getElem?_cons_zero,Option.some.injEq] at hi;subst hi;have:i=n:=by omega
   subst this;exact hq
theorem kR {r:Reach}{b0:Nat}{v:Value}{d:DataW H}{p:List MemPlace} (hv:Value.okWide Tryz.prog W r b0 22 v) (h:DataW.Trod enc Tryz.prog W 0 sp held 22 v d p) :
  ∃ (a:Option Addr) (l:List Pt) (cap:Nat),v=.slice a l.length cap∧l.length≤cap∧tB W a l∧(l≠[]→∃ s,d=.slice (l.map (ptD H)) s):=by
 obtain⟨a,len,cap,rfl⟩:=okWide_slice Tryz.underlying22 hv;obtain⟨fuel,hf⟩:=h;rcases RJ Tryz.underlying22 Tryz.underlying39 (by kernel_rfl) (by kernel_rfl) hf with ⟨hcs,_⟩|⟨a',len',cap',m,D,Pl,hcs,_,hl,_,hm,hx,hi⟩
 ·simp [Value.cells] at hcs;obtain⟨rfl,rfl,rfl⟩:=hcs;exact⟨none,[],0,rfl,Nat.le_refl _,.inl rfl,fun h=>absurd rfl h⟩
 ·simp [Value.cells] at hcs;obtain⟨rfl,rfl,rfl⟩:=hcs;have hml:len≤m:=by rw [hm];split <;> omega
  obtain⟨l,hll,hlp⟩:=LS (fun i (q:Pt)=>W.cell? (a'.add (i*3))=some (.int .u8 (q.k.toNat:Int))∧W.cell? (a'.add (i*3+1))=some (.int .i64 q.n)∧W.cell? (a'.add (i*3+2))=some (.string ⟨q.w.toArray⟩)∧D i=ptD H q) len (fun i hil=>by
   obtain⟨ys,n,hD,_,hyl,hff⟩:=hi i (by omega);obtain⟨v0,y0,c0,e0,t0⟩:=hff 0 _ rfl;obtain⟨v1,y1,c1,e1,t1⟩:=hff 1 _ rfl;obtain⟨v2,y2,c2,e2,t2⟩:=hff 2 _ rfl;obtain⟨k,hk,rfl,wk⟩:=DataW.trod_int Tryz.underlying5 t0;obtain⟨nn,hn,rfl,_⟩:=DataW.trod_int Tryz.underlying3 t1;obtain⟨s,hs,rfl,_⟩:=DataW.trod_string Tryz.underlying9 t2;simp only [List.cons.injEq,and_true] at hk hn hs;subst hk hn hs;obtain⟨⟨w⟩⟩:=s;have hkr:0≤k∧k < 256:=by
    have h1:IntKind.u8.min=0:=rfl;have h2:IntKind.u8.max=255:=rfl;simp only [Lit.wf,Bool.and_eq_true,decide_eq_true_eq] at wk;omega
   obtain⟨kn,rfl⟩:=Int.eq_ofNat_of_zero_le hkr.1;have hkn:((UInt8.ofNat kn).toNat:Int)=(kn:Int):=by rw [UInt8.toNat_ofNat',Nat.mod_eq_of_lt (by omega)]
   refine⟨⟨UInt8.ofNat kn,nn,w⟩,by rw [hkn];exact c0,c1,c2,?_⟩;rw [hD];have hyl:ys.length=3:=hyl
   match ys,hyl,e0,e1,e2 with
   | [x0,x1,x2],_,e0,e1,e2 =>
    simp only [List.getElem?_cons_zero,List.getElem?_cons_succ,Option.some.injEq] at e0 e1 e2;subst e0 e1 e2;simp only [ptD,hkn,List.map_cons,List.map_nil])
  subst hll;refine⟨some a',l,cap,rfl,hl,?_,fun _=>⟨(List.range (m - l.length)).map fun j=>D (l.length+j),?_⟩⟩
  ·by_cases h0:l=[]
   ·exact .inl h0
   ·have hpos:0 < l.length:=by
     rcases l with _|_
     ·exact absurd rfl h0
     ·simp
    obtain⟨c0,_,_,_⟩:=hlp 0 l[0] (List.getElem?_eq_getElem hpos);have ha:a'.add (0*3)=a':=by simp [Addr.add]
    rw [ha] at c0;obtain⟨b,o,spt⟩:=a';have hs:spt=none:=by
     cases spt with
     | none=>rfl
     | some x =>
      simp only [World.cell?] at c0;split at c0 <;> simp at c0
    subst hs;refine .inr ⟨b,o,rfl,World.block_lt_of_cell? W _ c0,fun j q hj=>?_⟩;obtain⟨g0,g1,g2,_⟩:=hlp j q hj;have had:∀ n,(Addr.mk b o none).add n=⟨b,o+n,none⟩:=fun n=>by
     unfold Addr.add;split
     ·rename_i h;subst h;rfl
     ·rfl
    rw [had] at g0 g1 g2;exact⟨g0,by rw [Nat.add_assoc];exact g1,by rw [Nat.add_assoc];exact g2⟩
  ·have hx1:d=_:=congrArg Prod.fst hx;rw [hx1];have:(List.range l.length).map D=l.map (ptD H):=by
    apply List.ext_getElem?;intro j;by_cases hj:j < l.length
    ·obtain⟨_,_,_,g⟩:=hlp j l[j] (List.getElem?_eq_getElem hj);simp [hj,g]
    ·rw [List.getElem?_eq_none (by simp;omega),List.getElem?_eq_none (by simp;omega)]
   simp only [this]
end
theorem xP {H:Type}:∀ l:List (DataW H),l.length≤Rows.uptoBulkAll l
 | []=>by simp
 | d::r=>by
  have h1:=xP r;have h2:1≤Rows.uptoBulk d:=by
   cases d with
   | lit l=>cases l <;> simp [Rows.uptoBulk]
   | nil=>simp [Rows.uptoBulk]
   | ptr d=>simp [Rows.uptoBulk]
   | slice elems spare=>simp [Rows.uptoBulk]
   | agg parts=>simp [Rows.uptoBulk]
   | iface t d=>simp [Rows.uptoBulk]
   | map entries=>simp [Rows.uptoBulk]
   | held h=>simp [Rows.uptoBulk]
  simp only [Rows.uptoBulkAll,List.length_cons];omega
theorem JT {H:Type}{d:DataW H}{l:List (DataW H)} (h:d∈l):Rows.uptoBulk d≤Rows.uptoBulkAll l:=by
 induction l with
 | nil=>cases h
 | cons x r ih =>
  simp only [Rows.uptoBulkAll];cases List.mem_cons.1 h with
  | inl e=>subst e;omega
  | inr e=>have:=ih e;omega
theorem aR {H:Type}{l:List Pt}{d:DataW H}{ds:List (DataW H)} (hk:Rows.uptoSmall H (d::ds)=true) (hl:l≠[]→∃ s,d=.slice (l.map (ptD H)) s) :
  l.length≤1048576∧∀ p∈l,p.w.length≤1048576:=by
 by_cases h0:l=[]
 ·subst h0;exact⟨by simp,fun p hp=>by cases hp⟩
 ·obtain⟨s,rfl⟩:=hl h0;have h:Rows.uptoBulkAll (DataW.slice (l.map (ptD H)) s::ds)≤1048576:=of_decide_eq_true hk;have h1:=xP (l.map (ptD H));simp only [Rows.uptoBulkAll,Rows.uptoBulk,List.length_map] at h h1;refine⟨by omega,fun p hp=>?_⟩;have h2:=JT (List.mem_map_of_mem (f:=ptD H) hp);have h3:p.w.length≤Rows.uptoBulk (ptD H p):=by
   simp only [ptD,Rows.uptoBulk,Rows.uptoBulkAll];omega
  omega
end
end Go.Proofs.YtcjmpafkcmlhbaaGreatDoor
