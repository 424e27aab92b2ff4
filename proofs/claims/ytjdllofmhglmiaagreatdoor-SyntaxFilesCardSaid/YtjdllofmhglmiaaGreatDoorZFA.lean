import Derived.Test.YtjdllofmhglmiaaGreatDoorQBW
import Derived.Test.YtjdllofmhglmiaaGreatDoorQBV
namespace Go.Proofs.YtjdllofmhglmiaaGreatDoor
open Lib(hid)
set_option linter.all false
set_option maxHeartbeats 40000000
set_option maxRecDepth 100000
section
open Go.RowKit
variable {w:World}
theorem mD {b:Nat}{w w':World}{p:Addr}{v:Value} (hb:Below b w w') (hp:p.block < b) (h:w.cell? p=some v):w'.cell? p=some v:=by rw [hb.cell hp];exact h
theorem jX (x o y u c1 c2:Nat) (a:List Grd.Pt) (hl:a.length<=1099511627776) (hx:x < w.heap.size) (hy:y < w.heap.size)
  (ha:∀ j p,a[j]?=some p->w.cell? ⟨x,o+j*3,none⟩=some (.int .u8 (p.k.toNat:Int))/\w.cell? ⟨x,o+j*3+1,none⟩=some (i8 p.n)/\w.cell? ⟨x,o+j*3+2,none⟩=some (.string ⟨p.w.toArray⟩))
  (hb:∀ j p,a[j]?=some p->w.cell? ⟨y,u+j*3,none⟩=some (.int .u8 (p.k.toNat:Int))/\w.cell? ⟨y,u+j*3+1,none⟩=some (i8 p.n)/\w.cell? ⟨y,u+j*3+2,none⟩=some (.string ⟨p.w.toArray⟩)) :
  Calls Tryz.prog 14 #[.slice (some (y8 x o)) a.length c1,.slice (some (y8 y u)) a.length c2] w fun e w'=>e=.returned (.bool true)/\Below w.heap.size w w':=by
 have HA:=hid (Az ha hb);clear ha hb
 go_in
 go_wp2_with fail
 go_loopw [5] (fun v w'=>∃ i:Nat,v=i8 (i:Int)/\i<=a.length/\Below w.heap.size w w') (fun v _=>((a.length:Int) - intOf v).toNat)
 case atStart=>exact⟨0,rfl,Cs,N' _ _⟩
 case round =>
  obtain⟨i,rfl,hi,hbel⟩:=hrel;by_cases hlt:i < a.length
  ·obtain⟨p0,p1,p2⟩:=HA.out.1 i a[i] (O' hlt);obtain⟨q0,q1,q2⟩:=HA.out.2 i a[i] (O' hlt);have p0:=mD hbel hx p0;have p1:=mD hbel hx p1;have p2:=mD hbel hx p2;have q0:=mD hbel hy q0;have q1:=mD hbel hy q1;have q2:=mD hbel hy q2;generalize a[i]=p at *;have i0:(0:Int)<=(i:Int):=by omega
   have i1:(i:Int) < (a.length:Int):=Cs
   obtain⟨k1,n1,s1⟩:=p;simp only [] at p0 p1 p2 q0 q1 q2;go_wp2_with fail
   go_region_held3 (fun w'=>w'.cell? ⟨x,o+i*3,none⟩=some (.int .u8 (k1.toNat:Int))/\w'.cell? ⟨x,o+i*3+1,none⟩=some (i8 n1)/\w'.cell? ⟨x,o+i*3+2,none⟩=some (.string ⟨s1.toArray⟩)/\w'.cell? ⟨y,u+i*3,none⟩=some (.int .u8 (k1.toNat:Int))/\w'.cell? ⟨y,u+i*3+1,none⟩=some (i8 n1)/\w'.cell? ⟨y,u+i*3+2,none⟩=some (.string ⟨s1.toArray⟩)) (go_keep) (first|fail)
   exact zbn
  ·exact zcg
theorem EY (xa ya:Option Addr) (c1 c2:Nat) (a:List Grd.Pt) (hl:a.length<=1099511627776) (ha:Grd.tB w xa a) (hb:Grd.tB w ya a) :
  Calls Tryz.prog 14 #[.slice xa a.length c1,.slice ya a.length c2] w fun e w'=>e=.returned (.bool true)/\Below w.heap.size w w':=by
 rcases ha with h|⟨b,off,rfl,hlt,hc⟩
 ·subst h
  go_in
  exact za0
 ·rcases hb with h|⟨b2,off2,rfl,hlt2,hc2⟩
  ·subst h
   go_in
   exact za0
  ·exact jX b off b2 off2 c1 c2 a hl hlt hlt2 hc hc2
def NX (n:UInt8):UInt8:=1+n % 4
end
section
theorem wZ0:nZ 2 [97,43,98,42,99]=.ok [⟨37,2,[43]⟩,⟨26,0,[97]⟩,⟨37,2,[42]⟩,⟨26,0,[98]⟩,⟨26,0,[99]⟩]:=Cw
theorem UZ0:gZ 3 [97,32,98]=.bad 7 2:=Cw
theorem GZ0:∃ l:List Pt3,nZ 3 [105,102,32,120,32,123,125]=.ok l/\l.length=7/\(l[1]?).map Pt3.kind=some 59/\(l[3]?).map Pt3.word=some [120]:=⟨[⟨13,1,[]⟩,⟨59,4,[]⟩,⟨0,0,[]⟩,⟨26,0,[120]⟩,⟨58,1,[]⟩,⟨13,0,[]⟩,⟨0,0,[]⟩],Cw,rfl,rfl,rfl⟩
end
section
open Go.RowKit
variable {w:World}
def OX5:List Pt3:=[⟨37,2,[43]⟩,⟨26,0,[97]⟩,⟨37,2,[42]⟩,⟨26,0,[98]⟩,⟨26,0,[99]⟩]
theorem AX8 (w:World) (b:Nat) (h:w.heap[b]?=some (.cells #[.int .u8 37,i8 2,.string ⟨#[43]⟩,.int .u8 26,i8 0,.string ⟨#[97]⟩,.int .u8 37,i8 2,.string ⟨#[42]⟩,.int .u8 26,i8 0,.string ⟨#[98]⟩,.int .u8 26,i8 0,.string ⟨#[99]⟩] 41 (0,0))):Grd.tB w (some (y8 b 0)) (OX5.map ptG):=by
 refine .inr ⟨b,0,rfl,RA h,fun j p hj=>?_⟩;have hl:j < 5:=(Al.1 hj).1;have hc:j=0∨j=1∨j=2∨j=3∨j=4:=Cs
 unfold World.cell?;rw [h];rcases hc with rfl|rfl|rfl|rfl|rfl <;> (cases hj;exact⟨rfl,rfl,rfl⟩)
theorem IX1 (hT:NC w):Calls Tryz.prog 9 #[] w (fun e w'=>e=.returned (.bool true)/\Below w.heap.size w w'):=by
 have H1:∀ w,NC w->Calls Tryz.prog 12 #[.int .u8 2,.string ⟨#[97,43,98,42,99]⟩] w (rW (.ok OX5) w):=fun w h=>by
  have h1:=TS gM 2 [97,43,98,42,99] w h;rw [show lM kE 2 [97,43,98,42,99]=_ from wZ0] at h1;exact h1
 have H2:∀ w,NC w->Calls Tryz.prog 15 #[.int .u8 3,.string ⟨#[97,32,98]⟩] w (JX2 (.bad 7 2) w):=fun w h=>by
  have h1:=yX3 gM 3 [97,32,98] w h;rw [show tD kE 3 [97,32,98]=_ from UZ0] at h1;exact h1
 obtain⟨L3,f3,f3l,f3k,f3w⟩:=GZ0;have H3:∀ w,NC w->Calls Tryz.prog 12 #[.int .u8 3,.string ⟨#[105,102,32,120,32,123,125]⟩] w (rW (.ok L3) w):=fun w h=>by
  have h1:=TS gM 3 [105,102,32,120,32,123,125] w h;rw [show lM kE 3 [105,102,32,120,32,123,125]=_ from f3] at h1;exact h1
 clear f3;have HT:=hid hT;have HH1:=hid H1;have HH2:=hid H2;have HH3:=hid H3;have HF3:=hid (Az f3l (Az f3k f3w));clear hT H1 H2 H3 f3l f3k f3w
 go_in
 go_upto_region 1 with fail;go_wp2_with (go_at_call 12;refine (HH1.out _ HT.out).mono ?_;rintro e w1 ⟨pv1,rfl,hr1,hb1⟩;obtain⟨a1,c1,rfl⟩:=Grd.ID hr1;unfold qA;have HR1:=hid (Az hr1 hb1);clear hr1 hb1);have h2:=B8 w1 (Obj.cells #[i8 0,i8 0] 28);have hBA:=hid (HR1.out.2.alloc HR1.out.2.size (Obj.cells #[i8 0,i8 0] 28));have HRA:=hid (HR1.out.1.alloc (Obj.cells #[i8 0,i8 0] 28));have hsA:w1.heap.size < (w1.alloc (Obj.cells #[i8 0,i8 0] 28)).heap.size:=Cu
 generalize w1.alloc (Obj.cells #[i8 0,i8 0] 28)=wA at *;refine (HH2.out _ (HT.out.below hBA.out)).mono ?_;rintro e w2 ⟨rfl,hb2⟩;unfold qA;go_upto_region 3 with fail;have h3:=B8 w2 (Obj.cells #[.slice none 0 0,.slice none 0 0] 37);have h4:=B8 (w2.alloc (Obj.cells #[.slice none 0 0,.slice none 0 0] 37)) (Obj.cells #[i8 7,i8 2] 28);have hbB:=hb2.trans (((N' w2.heap.size w2).alloc (C' _) (Obj.cells #[.slice none 0 0,.slice none 0 0] 37)).alloc Cu (Obj.cells #[i8 7,i8 2] 28) |>.mono hb2.size);rw [World.size_alloc] at h4;have h2B:=(hbB.block _ hsA).trans h2;have hBB:=hid (dA hBA.out hbB);have HRB:=hid (qD HRA.out (Fr.below (X:=[]) hbB) Cu);have hsB:((w2.alloc (Obj.cells #[.slice none 0 0,.slice none 0 0] 37)).alloc (Obj.cells #[i8 7,i8 2] 28)).heap.size=w2.heap.size+1+1:=Cu
 have hle:=hb2.size;clear h2 h3 hbB hb2;generalize (w2.alloc (Obj.cells #[.slice none 0 0,.slice none 0 0] 37)).alloc (Obj.cells #[i8 7,i8 2] 28)=wB at *;go_upto_region 4 with (go_at_call 12;refine (HH3.out _ (HT.out.below hBB.out)).mono ?_;rintro e w3 ⟨pv3,rfl,hr3,hb3⟩;obtain⟨a3,c3,rfl⟩:=Grd.ID hr3;unfold qA;have HR3:=hid hr3;have HB3:=hid hb3;clear hr3 hb3);have h6:=B8 w3 (Obj.cells #[i8 0,i8 0] 28);have hb6:=(N' w3.heap.size w3).alloc (C' _) (Obj.cells #[i8 0,i8 0] 28);have hs6:(w3.alloc (Obj.cells #[i8 0,i8 0] 28)).heap.size=w3.heap.size+1:=Cu
 have hB6:=HB3.out.trans (hb6.mono HB3.out.size);have hR3:=qD HR3.out (Fr.below (X:=[]) hb6) Cu;have h2C:=(hB6.block _ Cs).trans h2B;have h4C:=(hB6.block _ Cs).trans h4;have hBC:=hid (dA hBB.out hB6);have HRC:=hid (qD HRB.out (Fr.below (X:=[]) hB6) Cu);have hle3:=HB3.out.size;clear hb6 hB6 HB3 HR3 h2B h4;generalize w3.alloc (Obj.cells #[i8 0,i8 0] 28)=wC at *;obtain⟨OW,hOW⟩:∃ OW,OW=(Obj.cells #[.int .u8 37,i8 2,.string ⟨#[43]⟩,.int .u8 26,i8 0,.string ⟨#[97]⟩,.int .u8 37,i8 2,.string ⟨#[42]⟩,.int .u8 26,i8 0,.string ⟨#[98]⟩,.int .u8 26,i8 0,.string ⟨#[99]⟩] 41 (0,0)):=⟨_,rfl⟩;have h8:=B8 wC OW;have hb8:=(N' wC.heap.size wC).alloc (C' _) OW;have h2D:=(hb8.block _ Cs).trans h2C;have h4D:=(hb8.block _ Cs).trans h4C;have h6D:=(hb8.block _ Cs).trans h6;have hR3D:=qD hR3 (Fr.below (X:=[]) hb8) Cu;have hRD:=qD HRC.out (Fr.below (X:=[]) hb8) Cu;have hBD:=dA hBC.out hb8;rw [hOW] at h2D h4D h6D h8 hR3D hRD hBD;clear h2C h4C h6 hb8 hR3 hOW;rw [hs6] at h8;go_upto_region 5 with fail;generalize wC.alloc _=wD at *;obtain⟨g1,g2,_,_⟩:=YB h2D;obtain⟨g3,g4,_,_⟩:=YB h4D;obtain⟨g5,g6,_,_⟩:=YB h6D;have hS:=EY (w:=wD) a1 (some (y8 (w3.heap.size+1) 0)) c1 5 (OX5.map ptG) Ct (qP hRD rfl) (AX8 wD _ h8);have HS:Hid (Calls Tryz.prog 14 #[.slice a1 OX5.length c1,.slice (some (y8 (w3.heap.size+1) 0)) 5 5] wD fun e w'=>e=.returned (.bool true)/\Below wD.heap.size wD w'):=hid hS;obtain⟨f3l,f3k,f3w⟩:=HF3.out;have hP3:=qP hR3D rfl;rcases hP3 with h0|⟨b,off,rfl,hlt,hc⟩
 ·have:=congrArg List.length h0;rw [List.length_map,f3l] at this;cases this
 have e1:∃ x,L3[1]?=some x/\x.kind=59:=by
  cases h:L3[1]? with
  | none=>rw [h] at f3k;cases f3k
  | some x=>rw [h] at f3k;exact⟨x,rfl,Option.some.inj f3k⟩
 have e3:∃ x,L3[3]?=some x/\x.word=[120]:=by
  cases h:L3[3]? with
  | none=>rw [h] at f3w;cases f3w
  | some x=>rw [h] at f3w;exact⟨x,rfl,Option.some.inj f3w⟩
 obtain⟨x1,e1,k1⟩:=e1;obtain⟨x3,e3,k3⟩:=e3;have m1:=(hc 1 (ptG x1) (by rw [List.getElem?_map,e1];rfl)).1;have m3:=(hc 3 (ptG x3) (by rw [List.getElem?_map,e3];rfl)).2.2;rw [show ((ptG x1).k.toNat:Int)=59 by show ((x1.kind.toNat:Nat):Int)=59;rw [k1];rfl,show off+1*3=off+3 by omega] at m1;rw [show (ptG x3).w=[120] from k3,show off+3*3+2=off+11 by omega] at m3;clear e1 k1 e3 k3 hc f3k f3w HF3 h2D h4D h6D h8 hS hR3D hRD hlt;have HBD:=hid hBD;clear hBD;rw [f3l];go_wp2_with (go_at_call 14;refine HS.out.mono ?_;rintro e w9 ⟨rfl,hb9⟩;have q3:=aA hb9 g3;have q4:=aA hb9 g4;have q5:=aA hb9 g5;have q6:=aA hb9 g6;have q1:=aA hb9 m1;have q2:=aA hb9 m3;have HB9:=hid (dA HBD.out hb9);clear hb9 g1 g2 g3 g4 g5 g6 m1 m3);go_ret;exact⟨rfl,HB9.out⟩
end
namespace Rf
open Go.RowKit
variable {w w':World}
theorem nZ0 {w0 wx:World}{v0 v1 e a:Value} (h4:wx.heap[w0.heap.size]?=some (.cells #[.slice none 0 0,.slice none 0 0] 37 (0,0))) (h5:wx.heap[w0.heap.size+1]?=some (.cells #[i8 0,i8 0] 28 (0,0))) (hb:Below w0.heap.size w0 wx) :
  ((((wx.setCell (y8 w0.heap.size 0) v0).setCell (y8 w0.heap.size 1) v1).setCell (y8 (w0.heap.size+1) 0) e).setCell (y8 (w0.heap.size+1) 1) a).heap[w0.heap.size]?=some (.cells #[v0,v1] 37 (0,0))/\((((wx.setCell (y8 w0.heap.size 0) v0).setCell (y8 w0.heap.size 1) v1).setCell (y8 (w0.heap.size+1) 0) e).setCell (y8 (w0.heap.size+1) 1) a).heap[w0.heap.size+1]?=some (.cells #[e,a] 28 (0,0))/\Below w0.heap.size w0 ((((wx.setCell (y8 w0.heap.size 0) v0).setCell (y8 w0.heap.size 1) v1).setCell (y8 (w0.heap.size+1) 0) e).setCell (y8 (w0.heap.size+1) 1) a):=by
 have a4:=VD h4 v0 v1;have a5:=(Ah (wx.setCell (y8 w0.heap.size 0) v0) (y8 w0.heap.size 1) v1 (w0.heap.size+1) Cu).trans ((Ah wx (y8 w0.heap.size 0) v0 (w0.heap.size+1) Cu).trans h5);have hb4:=(hb.setCell (p:=(y8 w0.heap.size 0)) (C' _) v0).setCell (p:=(y8 w0.heap.size 1)) (C' _) v1;generalize (wx.setCell (y8 w0.heap.size 0) v0).setCell (y8 w0.heap.size 1) v1=w4 at *;refine⟨?_,VD a5 e a,(hb4.setCell (p:=(y8 (w0.heap.size+1) 0)) Cu e).setCell (p:=(y8 (w0.heap.size+1) 1)) Cu a⟩;rw [Ah _ _ _ _ Cu,Ah _ _ _ _ Cu];exact a4
theorem XX7 {w0 wx:World}{v0 v1 e a:Value}:Fr [w0.heap.size,w0.heap.size+1] wx ((((wx.setCell (y8 w0.heap.size 0) v0).setCell (y8 w0.heap.size 1) v1).setCell (y8 (w0.heap.size+1) 0) e).setCell (y8 (w0.heap.size+1) 1) a) :=
 (((Fr.set.weaken Ei).trans (Fr.set.weaken Ei)).trans (Fr.set.weaken Ei)).trans (Fr.set.weaken Ei)
theorem iX5 (goal:UInt8) (s:List UInt8):Calls Tryz.prog 16 #[.int .u8 (goal.toNat:Int),.string ⟨s.toArray⟩] w (JX2 (tD kE goal s) w):=by
 have h4:=B8 w (.cells #[.slice none 0 0,.slice none 0 0] 37);have h5:=B8 (w.alloc (.cells #[.slice none 0 0,.slice none 0 0] 37)) (.cells #[i8 0,i8 0] 28);rw [World.size_alloc] at h5;have h4':=(Af (w.alloc (.cells #[.slice none 0 0,.slice none 0 0] 37)) (.cells #[i8 0,i8 0] 28) w.heap.size (lt_of_block h4)).trans h4;have hB:=((N' w.heap.size w).alloc (C' _) (Obj.cells #[.slice none 0 0,.slice none 0 0] 37)).alloc Cu (Obj.cells #[i8 0,i8 0] 28);have hsz:((w.alloc (.cells #[.slice none 0 0,.slice none 0 0] 37)).alloc (.cells #[i8 0,i8 0] 28)).heap.size=w.heap.size+2:=Cu
 have HTW:=hid (fun w1:World=>LX4 (w:=w1) goal s);obtain⟨RR,hRR⟩:∃ RR,RR=tD kE goal s:=⟨_,rfl⟩;rw [<- hRR];rw [<- hRR] at HTW;have HRR:=hid hRR;clear hRR
 go_in
 go_upto_region 1 with fail;generalize (w.alloc (.cells #[.slice none 0 0,.slice none 0 0] 37)).alloc (.cells #[i8 0,i8 0] 28)=wA at *;clear h4;cases RR with
 | bad er a =>
  have hne0:=QP gM HRR.out.symm;have hne2:(((er:Nat):Int)==0)=false:=by simpa using hne0
  unfold kX3 qA zTv at HTW
  dsimp only at HTW
  go_upto_region 2 with (go_at_call 22;refine (HTW.out wA).mono ?_;rintro e w1 ⟨rfl,hb⟩);have hlt:=lt_of_block h5;have k4:=(hb.block _ (lt_of_block h4')).trans h4';have k5:=(hb.block _ hlt).trans h5;have hs1:=hb.size;have HS1:=hid (show w.heap.size+1 < w1.heap.size by omega);have hb1:=hB.trans (hb.mono Cs);have j7:=B8 w1 (Obj.cells #[.int .u8 0,i8 0,i8 0,i8 0,.slice none 0 0] 60);have hb7:=(N' w1.heap.size w1).alloc (C' _) (Obj.cells #[.int .u8 0,i8 0,i8 0,i8 0,.slice none 0 0] 60);have j8:=B8 (w1.alloc (Obj.cells #[.int .u8 0,i8 0,i8 0,i8 0,.slice none 0 0] 60)) (Obj.cells #[i8 (er:Int),i8 (a:Int)] 28);rw [World.size_alloc] at j8;have hb8:=hb7.alloc Cu (Obj.cells #[i8 (er:Int),i8 (a:Int)] 28);have H4:=hid ((hb8.block _ (lt_of_block k4)).trans k4);have H5:=hid ((hb8.block _ (lt_of_block k5)).trans k5);have HBB:=hid (hb1.trans (hb8.mono hb1.size));clear hb8 hb7 j7 hb1 hb k4 k5 h4' h5 hB hsz hs1 hlt HTW hne0;generalize (w1.alloc (Obj.cells #[.int .u8 0,i8 0,i8 0,i8 0,.slice none 0 0] 60)).alloc (Obj.cells #[i8 (er:Int),i8 (a:Int)] 28)=w2 at *;have e0:=(tA j8).1;have e1:=(tA j8).2.1;obtain⟨a0,a1,b0,b1⟩:=tA H4.out;obtain⟨c0,c1,f0,f1⟩:=tA H5.out;have HNA:=hid (show w.heap.size≠w1.heap.size+1/\w.heap.size+1≠w1.heap.size+1 by have:=HS1.out;omega);clear j8;go_upto_region 3 with fail;refine Ce (S:=fun w'=>w'.cell? (y8 (w1.heap.size+1) 0)=some (i8 (er:Int))/\w'.cell? (y8 (w1.heap.size+1) 1)=some (i8 (a:Int))) Cw ?_ (fun hHeld=>?_)
  ·exact⟨e0,e1⟩
  refine tn_ 0 ?_;refine tn_ 1 ?_;refine Cb (rs:=[2]) Cw Cu (Cc (o:=?_) ?_ (fun Kk hKk=>?_) Cd)
  rotate_left
  ·exact Cf
  go_simp;go_wp2_with fail;refine hKk.out _ _ ?_ (fun hHeld2=>?_)
  ·exact⟨drc (xX0 e0 HNA.out.1),drc (xX0 e1 HNA.out.1)⟩
  clear hKk Kk
  try simp only [Act.put,Q',Z',Aa]
  refine Cb (rs:=[3]) Cw Cu (Cc (o:=?_) ?_ (fun Kk hKk=>?_) Cd)
  rotate_left
  ·exact Cf
  go_simp;go_wp2_with fail;refine hKk.out _ _ ?_ (fun hHeld3=>?_)
  ·exact⟨drc (xX0 (xX0 e0 HNA.out.1) HNA.out.2),drc (xX0 (xX0 e1 HNA.out.1) HNA.out.2)⟩
  clear hKk Kk
  try simp only [Act.put,Q',Z',Aa]
  refine wpAnyH_done Cw ?_ _
  repeat go_step
  have HF:=hid (nZ0 (v0:=(.slice none 0 0)) (v1:=(.slice none 0 0)) (e:=(i8 (er:Int))) (a:=(i8 (a:Int))) H4.out H5.out HBB.out);obtain⟨q0,q1,_⟩:=tA HF.out.1;obtain⟨q5,q6,_⟩:=tA HF.out.2.1;generalize (((w2.setCell (y8 w.heap.size 0) (.slice none 0 0)).setCell (y8 w.heap.size 1) (.slice none 0 0)).setCell (y8 (w.heap.size+1) 0) (i8 (er:Int))).setCell (y8 (w.heap.size+1) 1) (i8 (a:Int))=w9 at *;refine Ca (v:=.tuple #[.agg #[.slice none 0 0,.slice none 0 0],qA er a]) ?_ rfl ⟨rfl,HF.out.2.2.drew⟩;simp [results,Tryz.results16,go_sem,q0,q1,q5,q6,qA]
 | ok l t =>
  unfold kX3 qA at HTW
  dsimp only at HTW
  have hsml:=UM gM HRR.out.symm;go_upto_region 2 with (go_at_call 22;refine (HTW.out wA).mono ?_;rintro e w1 ⟨lv,ka,cap,rfl,hrow,hk,hb⟩;simp only [tv];obtain⟨la,lc,rfl⟩:=bE hrow);have hlt:=lt_of_block h5;have k4:=(hb.block _ (lt_of_block h4')).trans h4';have k5:=(hb.block _ hlt).trans h5;have hs1:=hb.size;have HS1:=hid (show w.heap.size+1 < w1.heap.size by omega);have hb1:=hB.trans (hb.mono Cs);have hb7:=(N' w1.heap.size w1).alloc (C' _) (Obj.cells #[.int .u8 (t.kind.toNat:Int),i8 t.word,i8 (t.fr:Int),i8 (t.to:Int),.slice ka t.kids.length cap] 60);have j7:=B8 w1 (Obj.cells #[.int .u8 (t.kind.toNat:Int),i8 t.word,i8 (t.fr:Int),i8 (t.to:Int),.slice ka t.kids.length cap] 60);have j8:=B8 (w1.alloc (Obj.cells #[.int .u8 (t.kind.toNat:Int),i8 t.word,i8 (t.fr:Int),i8 (t.to:Int),.slice ka t.kids.length cap] 60)) (Obj.cells #[i8 0,i8 0] 28);have j7':=(Af (w1.alloc (Obj.cells #[.int .u8 (t.kind.toNat:Int),i8 t.word,i8 (t.fr:Int),i8 (t.to:Int),.slice ka t.kids.length cap] 60)) (Obj.cells #[i8 0,i8 0] 28) w1.heap.size (lt_of_block j7)).trans j7;rw [World.size_alloc] at j8;have hb8:=hb7.alloc Cu (Obj.cells #[i8 0,i8 0] 28);have hs8:((w1.alloc (Obj.cells #[.int .u8 (t.kind.toNat:Int),i8 t.word,i8 (t.fr:Int),i8 (t.to:Int),.slice ka t.kids.length cap] 60)).alloc (Obj.cells #[i8 0,i8 0] 28)).heap.size=w1.heap.size+2:=Cu
  have H4:=hid ((hb8.block _ (lt_of_block k4)).trans k4);have H5:=hid ((hb8.block _ (lt_of_block k5)).trans k5);have HBB:=hid (hb1.trans (hb8.mono hb1.size));have HRW:=hid (YP (LD hrow hb8) (show w.heap.size+2<=wA.heap.size by omega));have HKK:=hid (hk.kept (w':=(w1.alloc (Obj.cells #[.int .u8 (t.kind.toNat:Int),i8 t.word,i8 (t.fr:Int),i8 (t.to:Int),.slice ka t.kids.length cap] 60)).alloc (Obj.cells #[i8 0,i8 0] 28)) (D':=fun b=>b < w1.heap.size) (fun b hb2=>hb8.block b hb2) (fun _ h=>h));clear hb8 hb7 j7 hb1 hb k4 k5 h4' h5 hB hsz hs1 hlt HTW hrow hk;generalize (w1.alloc (Obj.cells #[.int .u8 (t.kind.toNat:Int),i8 t.word,i8 (t.fr:Int),i8 (t.to:Int),.slice ka t.kids.length cap] 60)).alloc (Obj.cells #[i8 0,i8 0] 28)=w2 at *;have e0:=(tA j8).1;have e1:=(tA j8).2.1;obtain⟨t0,t1,t2,t3,t4,_⟩:=pX0 j7';have HJ8:=hid j8;have HS8:=hid hs8;have HSM:=hid hsml;have HNA:=hid (show w.heap.size≠w1.heap.size/\w.heap.size≠w1.heap.size+1/\w.heap.size+1≠w1.heap.size/\w.heap.size+1≠w1.heap.size+1 by have:=HS1.out;omega);clear j8 j7' hs8 hsml;go_upto_region 4 with fail;refine Ce (S:=fun w'=>(w'.cell? (y8 w1.heap.size 0)=some (.int .u8 (t.kind.toNat:Int))/\w'.cell? (y8 w1.heap.size 1)=some (i8 t.word)/\w'.cell? (y8 w1.heap.size 2)=some (i8 (t.fr:Int))/\w'.cell? (y8 w1.heap.size 3)=some (i8 (t.to:Int))/\w'.cell? (y8 w1.heap.size 4)=some (.slice ka t.kids.length cap))/\w'.cell? (y8 (w1.heap.size+1) 0)=some (i8 0)/\w'.cell? (y8 (w1.heap.size+1) 1)=some (i8 0)) Cw ?_ (fun hHeld=>?_)
  ·exact⟨⟨t0,t1,t2,t3,t4⟩,e0,e1⟩
  refine tn_ 0 ?_;refine tn_ 1 ?_;refine tn_ 4 ?_;refine Cb (rs:=[2]) Cw Cu (Cc (o:=?_) ?_ (fun Kk hKk=>?_) Cd)
  rotate_left
  ·exact Cf
  go_simp;go_at_call 25;refine (PX3 20000005 t HSM.out Cs w2.drew (fun b=>b < w1.heap.size) ka cap (HKK.out.kept (fun _ _=>rfl) (fun _ h=>h)) (fun b hb=>by have:=HS8.out;show b < w2.heap.size;omega)).mono ?_;rintro e w3 ⟨nv,rfl,hown,hb3⟩;obtain⟨na,nc,rfl⟩:=bE hown;have hk0:=aA hb3 (drc t0);have hk1:=aA hb3 (drc t1);have hk2:=aA hb3 (drc t2);have hk3:=aA hb3 (drc t3);have hk4:=aA hb3 (drc t4);have hk5:=aA hb3 (drc e0);have hk6:=aA hb3 (drc e1);have H4:=hid ((hb3.block _ (lt_of_block H4.out)).trans H4.out);have H5:=hid ((hb3.block _ (lt_of_block H5.out)).trans H5.out);have HBB:=hid (HBB.out.drew.trans (hb3.mono HBB.out.size));have HRW:=hid (LD HRW.out.drew hb3);have HOW:=hid (YP hown (show w.heap.size+2<=w2.heap.size by have:=HS1.out;have:=HS8.out;omega));clear hown hb3 t0 t1 t2 t3 t4 e0 e1;obtain⟨a0,a1,b0,b1⟩:=tA H4.out;obtain⟨c0,c1,f0,f1⟩:=tA H5.out;refine hKk.out _ _ ?_ (fun hHeld2=>?_)
  ·exact⟨⟨hk0,hk1,hk2,hk3,hk4⟩,hk5,hk6⟩
  clear hKk Kk
  try simp only [Act.put,Q',Z',Aa]
  refine tn_ 3 ?_;refine Cb (rs:=[5]) Cw Cu (Cc (o:=?_) ?_ (fun Kk hKk=>?_) Cd)
  rotate_left
  ·exact Cf
  go_simp;go_wp2_with fail;refine hKk.out _ _ ?_ (fun hHeld5=>?_)
  ·exact⟨⟨xX0 hk0 HNA.out.1,xX0 hk1 HNA.out.1,xX0 hk2 HNA.out.1,xX0 hk3 HNA.out.1,xX0 hk4 HNA.out.1⟩,xX0 hk5 HNA.out.2.1,xX0 hk6 HNA.out.2.1⟩
  clear hKk Kk
  try simp only [Act.put,Q',Z',Aa]
  refine Cb (rs:=[6]) Cw Cu (Cc (o:=?_) ?_ (fun Kk hKk=>?_) Cd)
  rotate_left
  ·exact Cf
  go_simp;go_wp2_with fail;refine hKk.out _ _ ?_ (fun hHeld6=>?_)
  ·exact⟨⟨xX0 (xX0 hk0 HNA.out.1) HNA.out.2.2.1,xX0 (xX0 hk1 HNA.out.1) HNA.out.2.2.1,xX0 (xX0 hk2 HNA.out.1) HNA.out.2.2.1,xX0 (xX0 hk3 HNA.out.1) HNA.out.2.2.1,xX0 (xX0 hk4 HNA.out.1) HNA.out.2.2.1⟩,xX0 (xX0 hk5 HNA.out.2.1) HNA.out.2.2.2,xX0 (xX0 hk6 HNA.out.2.1) HNA.out.2.2.2⟩
  clear hKk Kk
  try simp only [Act.put,Q',Z',Aa]
  refine wpAnyH_done Cw ?_ _
  repeat go_step
  have HK9:=hid (XX7 (w0:=w) (wx:=w3) (v0:=.slice la l.length lc) (v1:=.slice na (nodes t).length nc) (e:=i8 0) (a:=i8 0));have HR9:=hid (YP (CD HRW.out HK9.out (fun b hb e=>by have:=(HRW.out.lt b e).1;simp at hb;omega)) (show w.heap.size<=w.heap.size+2 by omega));have HO9:=hid (YP (CD HOW.out HK9.out (fun b hb e=>by have:=(HOW.out.lt b e).1;simp at hb;omega)) (show w.heap.size<=w.heap.size+2 by omega));clear HK9;have HF:=hid (nZ0 (v0:=(.slice la l.length lc)) (v1:=(.slice na (nodes t).length nc)) (e:=(i8 0)) (a:=(i8 0)) H4.out H5.out HBB.out);obtain⟨q0,q1,_⟩:=tA HF.out.1;obtain⟨q5,q6,_⟩:=tA HF.out.2.1;generalize (((w3.setCell (y8 w.heap.size 0) (.slice la l.length lc)).setCell (y8 w.heap.size 1) (.slice na (nodes t).length nc)).setCell (y8 (w.heap.size+1) 0) (i8 0)).setCell (y8 (w.heap.size+1) 1) (i8 0)=w9 at *;refine Ca (v:=.tuple #[.agg #[.slice la l.length lc,.slice na (nodes t).length nc],qA 0 0]) ?_ rfl ⟨_,_,rfl,HR9.out,HO9.out,HF.out.2.2⟩;simp [results,Tryz.results16,go_sem,q0,q1,q5,q6,qA]
end Rf
namespace Rf
open Go.RowKit
variable {w w':World}
theorem PX7 {lo n c:Nat}{T:TypeId}{a:Option Addr}{l:List Tk} (h:w.ownsRow lo T 3 (.slice a n c) l.length (BF l)):n=l.length/\Ck.same7At w a l:=by
 have hn:n=l.length:=Fd
 subst hn;refine⟨rfl,?_⟩;by_cases hl:l=[]
 ·exact .inl hl
 obtain⟨t,r,e⟩:=List.exists_cons_of_ne_nil hl;obtain⟨b,hb,_,hlt,_⟩:=GA h (lH (l:=l) (i:=0) (t:=t) Eu).1;refine .inr ⟨b,0,hb,hlt,fun j p hj=>?_⟩;obtain⟨x0,x1,x2⟩:=lH hj;obtain⟨b0,e0,_,_,y0⟩:=GA h x0;obtain⟨b1,e1,_,_,y1⟩:=GA h x1;obtain⟨b2,e2,_,_,y2⟩:=GA h x2;rw [hb] at e0 e1 e2;cases e0;cases e1;cases e2;simp only [Nat.zero_add];exact⟨y0,y1,y2⟩
theorem zX5:∀ {l:List Nd5}{i:Nat}{x:Nd5},l[i]?=some x->(tV l)[i*5]?=some (.int .u8 (x.kind.toNat:Int))/\(tV l)[i*5+1]?=some (i8 (x.kids:Int))/\(tV l)[i*5+2]?=some (i8 x.word)/\(tV l)[i*5+3]?=some (i8 (x.fr:Int))/\(tV l)[i*5+4]?=some (i8 (x.till:Int))
 | [],i,x,h=>Do
 | u::l,0,x,h=>by cases h;exact⟨rfl,rfl,rfl,rfl,rfl⟩
 | u::l,i+1,x,h=>by
  have:=zX5 (l:=l) (i:=i) (x:=x) Dp;have e0:(i+1)*5=i*5+1+1+1+1+1:=Cs
  rw [e0];exact this
theorem ZX6 {lo n c:Nat}{T:TypeId}{a:Option Addr}{l:List Nd5} (h:w.ownsRow lo T 5 (.slice a n c) l.length (tV l)):n=l.length/\Ck.sameNAt w a l:=by
 have hn:n=l.length:=Fd
 subst hn;refine⟨rfl,?_⟩;by_cases hl:l=[]
 ·exact .inl hl
 obtain⟨t,r,e⟩:=List.exists_cons_of_ne_nil hl;obtain⟨b,hb,_,hlt,_⟩:=GA h (zX5 (l:=l) (i:=0) (x:=t) Eu).1;refine .inr ⟨b,0,hb,hlt,fun j p hj=>?_⟩;obtain⟨x0,x1,x2,x3,x4⟩:=zX5 hj;obtain⟨b0,e0,_,_,y0⟩:=GA h x0;obtain⟨b1,e1,_,_,y1⟩:=GA h x1;obtain⟨b2,e2,_,_,y2⟩:=GA h x2;obtain⟨b3,e3,_,_,y3⟩:=GA h x3;obtain⟨b4,e4,_,_,y4⟩:=GA h x4;rw [hb] at e0 e1 e2 e3 e4;cases e0;cases e1;cases e2;cases e3;cases e4;simp only [Nat.zero_add];exact⟨y0,y1,y2,y3,y4⟩
theorem TX1 {a:Option Addr}{l:List Tk} (h:Ck.same7At w a l) (hb:Below w.heap.size w w'):Ck.same7At w' a l:=by
 rcases h with h|⟨b,o,e,hl,hc⟩
 ·exact .inl h
 ·exact .inr ⟨b,o,e,Aj hl hb.size,fun j p hj=>by obtain⟨y0,y1,y2⟩:=hc j p hj;exact⟨aA hb y0,aA hb y1,aA hb y2⟩⟩
theorem WX0 {a:Option Addr}{l:List Nd5} (h:Ck.sameNAt w a l) (hb:Below w.heap.size w w'):Ck.sameNAt w' a l:=by
 rcases h with h|⟨b,o,e,hl,hc⟩
 ·exact .inl h
 ·exact .inr ⟨b,o,e,Aj hl hb.size,fun j p hj=>by obtain⟨y0,y1,y2,y3,y4⟩:=hc j p hj;exact⟨aA hb y0,aA hb y1,aA hb y2,aA hb y3,aA hb y4⟩⟩
theorem WX6 (w:World) (a b:Obj):Below w.heap.size w ((w.alloc a).alloc b)/\((w.alloc a).alloc b).heap[w.heap.size]?=some a/\((w.alloc a).alloc b).heap[w.heap.size+1]?=some b/\((w.alloc a).alloc b).heap.size=w.heap.size+1+1:=by
 have h1:=B8 w a;have h2:=B8 (w.alloc a) b;rw [World.size_alloc] at h2;have hb:=(N' w.heap.size w).alloc (C' _) a;have hb2:=(N' (w.alloc a).heap.size (w.alloc a)).alloc (C' _) b;exact⟨hb.alloc Cu b,(hb2.block _ Cu).trans h1,h2,Cu⟩
def xZ0 (er a:Nat) (lt:List Tk) (ln:List Nd5) (w:World) (e:Ending) (w':World):Prop :=
 ∃ ta tc na nc,e=.returned (.tuple #[.agg #[.slice ta lt.length tc,.slice na ln.length nc],.agg #[i8 (er:Int),i8 (a:Int)]])/\Ck.same7At w' ta lt/\Ck.sameNAt w' na ln/\Below w.heap.size w w'
def tX5:qK->Nat × Nat × List Tk × List Nd5|.bad er a=>(er,a,[],[])|.ok l t=>(0,0,l,nodes t)
theorem SX8 {r:qK}{e:Ending} (h:JX2 r w e w'):xZ0 (tX5 r).1 (tX5 r).2.1 (tX5 r).2.2.1 (tX5 r).2.2.2 w e w':=by
 cases r with
 | bad er a=>obtain⟨rfl,hb⟩:=h;exact⟨none,0,none,0,rfl,.inl rfl,.inl rfl,hb⟩
 | ok l t =>
  obtain⟨tv,nv,rfl,h1,h2,hb⟩:=h;obtain⟨ta,tc,rfl⟩:=bE h1;obtain⟨na,nc,rfl⟩:=bE h2;exact⟨ta,tc,na,nc,rfl,(PX7 h1).2,(ZX6 h2).2,hb⟩
theorem DX6 {goal:UInt8}{s:List UInt8}:(tX5 (tD kE goal s)).2.2.1.length<=1000000/\(tX5 (tD kE goal s)).2.2.2.length<=20000005:=by
 cases hr:tD kE goal s with
 | bad er a=>exact⟨Nat.zero_le _,Nat.zero_le _⟩
 | ok l t =>
  obtain⟨p,m,hN,_⟩:=MO hr;refine⟨(gM.fit s l p hN).small,?_⟩;have:=UM gM hr
  show (nodes t).length<=_
  rw [sN];exact this
theorem hX1 (goal:UInt8) (s:List UInt8) (hT:NC w):Calls Tryz.prog 11 #[.int .u8 (goal.toNat:Int),.string ⟨s.toArray⟩] w fun e w'=>e=.returned (.bool true)/\Below w.heap.size w w':=by
 have HP:=hid ((yX3 gM goal s w hT).mono fun e w' h=>SX8 h);have HQ:=hid (fun w1:World=>(iX5 (w:=w1) goal s).mono fun e w' h=>SX8 h);have HL:=hid (DX6 (goal:=goal) (s:=s));generalize tX5 (tD kE goal s)=r at *;obtain⟨er,a,lt,ln⟩:=r
 dsimp only at HP HQ HL
 clear hT
 go_in
 go_upto_region 2 with (go_at_call 15;refine HP.out.mono ?_;rintro e w1 ⟨ta,tc,na,nc,rfl,hs1,hn1,hb1⟩);have t1:=WX6 w1 (.cells #[.slice ta lt.length tc,.slice na ln.length nc] 37) (.cells #[i8 (er:Int),i8 (a:Int)] 28);generalize (w1.alloc (.cells #[.slice ta lt.length tc,.slice na ln.length nc] 37)).alloc (.cells #[i8 (er:Int),i8 (a:Int)] 28)=w2 at *;obtain⟨b12,k1,k2,z2⟩:=t1;have HS:=hid (Az (TX1 hs1 b12) (Az (WX0 hn1 b12) (hb1.trans (b12.mono hb1.size))));have HK:=hid (Az k1 (Az k2 z2));clear hs1 hn1 hb1 b12 k1 k2 z2 HP;go_upto_region 3 with (go_at_call 16;refine (HQ.out w2).mono ?_;rintro e w3 ⟨xa,xc,ya,yc,rfl,hs3,hn3,hb3⟩);have t3:=WX6 w3 (.cells #[.slice xa lt.length xc,.slice ya ln.length yc] 37) (.cells #[i8 (er:Int),i8 (a:Int)] 28);generalize (w3.alloc (.cells #[.slice xa lt.length xc,.slice ya ln.length yc] 37)).alloc (.cells #[i8 (er:Int),i8 (a:Int)] 28)=w4 at *;obtain⟨b34,k3,k4,z4⟩:=t3;have b24:=dA hb3 b34;have HS3:=hid (Az (TX1 hs3 b34) (Az (WX0 hn3 b34) (Az (TX1 HS.out.1 b24) (Az (WX0 HS.out.2.1 b24) (HS.out.2.2.trans (b24.mono HS.out.2.2.size))))));have j1:=(tA ((b24.block _ (lt_of_block HK.out.1)).trans HK.out.1));have j2:=(tA ((b24.block _ (lt_of_block HK.out.2.1)).trans HK.out.2.1));have j3:=tA k3;have j4:=tA k4;obtain⟨p0,p1,_⟩:=j1;obtain⟨p2,p3,_⟩:=j2;obtain⟨p4,p5,_⟩:=j3;obtain⟨p6,p7,_⟩:=j4;clear hs3 hn3 hb3 b34 b24 HQ HS HK k3 k4 z4;go_wp2_with fail;refine (Ck.same7_walk ta xa tc xc lt (by have:=HL.out.1;omega) HS3.out.2.2.1 HS3.out.1).mono ?_;rintro e w5 ⟨rfl,hb5⟩;have HB5:=hid (dA HS3.out.2.2.2.2 hb5);have HN5:=hid (Az (WX0 HS3.out.2.2.2.1 hb5) (WX0 HS3.out.2.1 hb5));replace p0:=aA hb5 p0;replace p1:=aA hb5 p1;replace p4:=aA hb5 p4;replace p5:=aA hb5 p5;clear hb5 HS3 p2 p3 p6 p7;go_wp2_with fail;refine (Ck.sameN_walk na ya nc yc ln (by have:=HL.out.2;omega) HN5.out.1 HN5.out.2).mono ?_;rintro e w6 ⟨rfl,hb6⟩;have HB6:=hid (dA HB5.out hb6);clear hb6;go_wp2_with fail;go_ret;exact⟨rfl,HB6.out⟩
end Rf
namespace Rf
open Go.RowKit
variable {w w':World}
theorem kX2 (s:List UInt8):Calls Tryz.prog 10 #[.string ⟨s.toArray⟩] w fun e w'=>e=.returned (.bool (decide ((1500:Int) < (s.length:Int))))/\w'=w:=by
 by_cases h:(1500:Int) < (s.length:Int)
 all_goals
  go_in
  go_wp2_with fail;go_ret;exact⟨by simp [h],rfl⟩
theorem files_law (s:List UInt8) (hT:NC w):Calls Tryz.prog 6 #[.string ⟨s.toArray⟩] w fun e w'=>e=.returned (.bool true)/\Below w.heap.size w w':=by
 have HF:=hid (IX1 hT);have HP:=hid (fun (w1:World) h=>hX1 (w:=w1) 4 s h);rw [show (((4:UInt8).toNat:Nat):Int)=4 from rfl] at HP;have HT:=hid hT;clear hT
 go_in
 go_wp2_with fail;refine HF.out.mono ?_;rintro e w1 ⟨rfl,hb1⟩;have HB:=hid hb1;clear hb1 HF;go_wp2_with fail;refine (kX2 s).mono ?_;rintro e w2 ⟨rfl,rfl⟩;by_cases h:(1500:Int) < (s.length:Int)
 ·have d:decide ((1500:Int) < (s.length:Int))=true:=by simp [h]
  rw [d];clear h d;go_wp2_with fail;go_ret;exact⟨rfl,HB.out⟩
 ·have d:decide ((1500:Int) < (s.length:Int))=false:=by simp [h]
  rw [d];clear h d;go_wp2_with fail;refine (HP.out _ (HT.out.below HB.out)).mono ?_;rintro e w3 ⟨rfl,hb3⟩;have HB3:=hid (dA HB.out hb3);clear hb3;go_wp2_with fail;go_ret;exact⟨rfl,HB3.out⟩
end Rf
