import Derived.Test.YtjdllofmhglmiaaGreatDoorQBW
import Derived.Test.YtjdllofmhglmiaaGreatDoorQBV
namespace Go.Proofs.YtjdllofmhglmiaaGreatDoor
open Lib(hid)
set_option linter.all false
set_option maxHeartbeats 40000000
set_option maxRecDepth 100000
section
open Go.RowKit
variable {w:World}
theorem mD {b:Nat}{w w':World}{p:Addr}{v:Value} (hb:Below b w w') (hp:p.block < b) (h:w.cell? p=some v):w'.cell? p=some v:=by rw [hb.cell hp];exact h
theorem jX (x o y u c1 c2:Nat) (a:List Grd.Pt) (hl:a.length<=1099511627776) (hx:x < w.heap.size) (hy:y < w.heap.size)
  (ha:∀ j p,a[j]?=some p->w.cell? ⟨x,o+j*3,none⟩=some (.int .u8 (p.k.toNat:Int))/\w.cell? ⟨x,o+j*3+1,none⟩=some (i8 p.n)/\w.cell? ⟨x,o+j*3+2,none⟩=some (.string ⟨p.w.toArray⟩))
  (hb:∀ j p,a[j]?=some p->w.cell? ⟨y,u+j*3,none⟩=some (.int .u8 (p.k.toNat:Int))/\w.cell? ⟨y,u+j*3+1,none⟩=some (i8 p.n)/\w.cell? ⟨y,u+j*3+2,none⟩=some (.string ⟨p.w.toArray⟩)) :
  Calls Tryz.prog 14 #[.slice (some (y8 x o)) a.length c1,.slice (some (y8 y u)) a.length c2] w fun e w'=>e=.returned (.bool true)/\Below w.heap.size w w':=by
 have HA:=hid (Az ha hb);clear ha hb
 go_in
 go_wp2_with fail
 go_loopw [5] (fun v w'=>∃ i:Nat,v=i8 (i:Int)/\i<=a.length/\Below w.heap.size w w') (fun v _=>((a.length:Int) - intOf v).toNat)
 case atStart=>exact⟨0,rfl,Cs,N' _ _⟩
 case round =>
  obtain⟨i,rfl,hi,hbel⟩:=hrel;by_cases hlt:i < a.length
  ·obtain⟨p0,p1,p2⟩:=HA.out.1 i a[i] (O' hlt);obtain⟨q0,q1,q2⟩:=HA.out.2 i a[i] (O' hlt);have p0:=mD hbel hx p0;have p1:=mD hbel hx p1;have p2:=mD hbel hx p2;have q0:=mD hbel hy q0;have q1:=mD hbel hy q1;have q2:=mD hbel hy q2;generalize a[i]=p at *;have i0:(0:Int)<=(i:Int):=by omega
   have i1:(i:Int) < (a.length:Int):=Cs
   obtain⟨k1,n1,s1⟩:=p;simp only [] at p0 p1 p2 q0 q1 q2;go_wp2_with fail
   go_region_held3 (fun w'=>w'.cell? ⟨x,o+i*3,none⟩=some (.int .u8 (k1.toNat:Int))/\w'.cell? ⟨x,o+i*3+1,none⟩=some (i8 n1)/\w'.cell? ⟨x,o+i*3+2,none⟩=some (.string ⟨s1.toArray⟩)/\w'.cell? ⟨y,u+i*3,none⟩=some (.int .u8 (k1.toNat:Int))/\w'.cell? ⟨y,u+i*3+1,none⟩=some (i8 n1)/\w'.cell? ⟨y,u+i*3+2,none⟩=some (.string ⟨s1.toArray⟩)) (go_keep) (first|fail)
   exact zbn
  ·exact zcg
theorem EY (xa ya:Option Addr) (c1 c2:Nat) (a:List Grd.Pt) (hl:a.length<=1099511627776) (ha:Grd.tB w xa a) (hb:Grd.tB w ya a) :
  Calls Tryz.prog 14 #[.slice xa a.length c1,.slice ya a.length c2] w fun e w'=>e=.returned (.bool true)/\Below w.heap.size w w':=by
 rcases ha with h|⟨b,off,rfl,hlt,hc⟩
 ·subst h
  go_in
  exact za0
 ·rcases hb with h|⟨b2,off2,rfl,hlt2,hc2⟩
  ·subst h
   go_in
   exact za0
  ·exact jX b off b2 off2 c1 c2 a hl hlt hlt2 hc hc2
def NX (n:UInt8):UInt8:=1+n % 4
end
section
theorem wZ0:nZ 2 [97,43,98,42,99]=.ok [⟨37,2,[43]⟩,⟨26,0,[97]⟩,⟨37,2,[42]⟩,⟨26,0,[98]⟩,⟨26,0,[99]⟩]:=Cw
theorem UZ0:gZ 3 [97,32,98]=.bad 7 2:=Cw
theorem GZ0:∃ l:List Pt3,nZ 3 [105,102,32,120,32,123,125]=.ok l/\l.length=7/\(l[1]?).map Pt3.kind=some 59/\(l[3]?).map Pt3.word=some [120]:=⟨[⟨13,1,[]⟩,⟨59,4,[]⟩,⟨0,0,[]⟩,⟨26,0,[120]⟩,⟨58,1,[]⟩,⟨13,0,[]⟩,⟨0,0,[]⟩],Cw,rfl,rfl,rfl⟩
end
section
open Go.RowKit
variable {w:World}
def OX5:List Pt3:=[⟨37,2,[43]⟩,⟨26,0,[97]⟩,⟨37,2,[42]⟩,⟨26,0,[98]⟩,⟨26,0,[99]⟩]
theorem AX8 (w:World) (b:Nat) (h:w.heap[b]?=some (.cells #[.int .u8 37,i8 2,.string ⟨#[43]⟩,.int .u8 26,i8 0,.string ⟨#[97]⟩,.int .u8 37,i8 2,.string ⟨#[42]⟩,.int .u8 26,i8 0,.string ⟨#[98]⟩,.int .u8 26,i8 0,.string ⟨#[99]⟩] 41 (0,0))):Grd.tB w (some (y8 b 0)) (OX5.map ptG):=by
 refine .inr ⟨b,0,rfl,RA h,fun j p hj=>?_⟩;have hl:j < 5:=(Al.1 hj).1;have hc:j=0∨j=1∨j=2∨j=3∨j=4:=Cs
 unfold World.cell?;rw [h];rcases hc with rfl|rfl|rfl|rfl|rfl <;> (cases hj;exact⟨rfl,rfl,rfl⟩)
theorem IX1 (hT:NC w):Calls Tryz.prog 9 #[] w (fun e w'=>e=.returned (.bool true)/\Below w.heap.size w w'):=by
 have H1:∀ w,NC w->Calls Tryz.prog 12 #[.int .u8 2,.string ⟨#[97,43,98,42,99]⟩] w (rW (.ok OX5) w):=fun w h=>by
  have h1:=TS gM 2 [97,43,98,42,99] w h;rw [show lM kE 2 [97,43,98,42,99]=_ from wZ0] at h1;exact h1
 have H2:∀ w,NC w->Calls Tryz.prog 15 #[.int .u8 3,.string ⟨#[97,32,98]⟩] w (JX2 (.bad 7 2) w):=fun w h=>by
  have h1:=yX3 gM 3 [97,32,98] w h;rw [show tD kE 3 [97,32,98]=_ from UZ0] at h1;exact h1
 obtain⟨L3,f3,f3l,f3k,f3w⟩:=GZ0;have H3:∀ w,NC w->Calls Tryz.prog 12 #[.int .u8 3,.string ⟨#[105,102,32,120,32,123,125]⟩] w (rW (.ok L3) w):=fun w h=>by
  have h1:=TS gM 3 [105,102,32,120,32,123,125] w h;rw [show lM kE 3 [105,102,32,120,32,123,125]=_ from f3] at h1;exact h1
 clear f3;have HT:=hid hT;have HH1:=hid H1;have HH2:=hid H2;have HH3:=hid H3;have HF3:=hid (Az f3l (Az f3k f3w));clear hT H1 H2 H3 f3l f3k f3w
 go_in
 go_upto_region 1 with fail;go_wp2_with (go_at_call 12;refine (HH1.out _ HT.out).mono ?_;rintro e w1 ⟨pv1,rfl,hr1,hb1⟩;obtain⟨a1,c1,rfl⟩:=Grd.ID hr1;unfold qA;have HR1:=hid (Az hr1 hb1);clear hr1 hb1);have h2:=B8 w1 (Obj.cells #[i8 0,i8 0] 28);have hBA:=hid (HR1.out.2.alloc HR1.out.2.size (Obj.cells #[i8 0,i8 0] 28));have HRA:=hid (HR1.out.1.alloc (Obj.cells #[i8 0,i8 0] 28));have hsA:w1.heap.size < (w1.alloc (Obj.cells #[i8 0,i8 0] 28)).heap.size:=Cu
 generalize w1.alloc (Obj.cells #[i8 0,i8 0] 28)=wA at *;refine (HH2.out _ (HT.out.below hBA.out)).mono ?_;rintro e w2 ⟨rfl,hb2⟩;unfold qA;go_upto_region 3 with fail;have h3:=B8 w2 (Obj.cells #[.slice none 0 0,.slice none 0 0] 37);have h4:=B8 (w2.alloc (Obj.cells #[.slice none 0 0,.slice none 0 0] 37)) (Obj.cells #[i8 7,i8 2] 28);have hbB:=hb2.trans (((N' w2.heap.size w2).alloc (C' _) (Obj.cells #[.slice none 0 0,.slice none 0 0] 37)).alloc Cu (Obj.cells #[i8 7,i8 2] 28) |>.mono hb2.size);rw [World.size_alloc] at h4;have h2B:=(hbB.block _ hsA).trans h2;have hBB:=hid (dA hBA.out hbB);have HRB:=hid (qD HRA.out (Fr.below (X:=[]) hbB) Cu);have hsB:((w2.alloc (Obj.cells #[.slice none 0 0,.slice none 0 0] 37)).alloc (Obj.cells #[i8 7,i8 2] 28)).heap.size=w2.heap.size+1+1:=Cu
 have hle:=hb2.size;clear h2 h3 hbB hb2;generalize (w2.alloc (Obj.cells #[.slice none 0 0,.slice none 0 0] 37)).alloc (Obj.cells #[i8 7,i8 2] 28)=wB at *;go_upto_region 4 with (go_at_call 12;refine (HH3.out _ (HT.out.below hBB.out)).mono ?_;rintro e w3 ⟨pv3,rfl,hr3,hb3⟩;obtain⟨a3,c3,rfl⟩:=Grd.ID hr3;unfold qA;have HR3:=hid hr3;have HB3:=hid hb3;clear hr3 hb3);have h6:=B8 w3 (Obj.cells #[i8 0,i8 0] 28);have hb6:=(N' w3.heap.size w3).alloc (C' _) (Obj.cells #[i8 0,i8 0] 28);have hs6:(w3.alloc (Obj.cells #[i8 0,i8 0] 28)).heap.size=w3.heap.size+1:=Cu
 have hB6:=HB3.out.trans (hb6.mono HB3.out.size);have hR3:=qD HR3.out (Fr.below (X:=[]) hb6) Cu;have h2C:=(hB6.block _ Cs).trans h2B;have h4C:=(hB6.block _ Cs).trans h4;have hBC:=hid (dA hBB.out hB6);have HRC:=hid (qD HRB.out (Fr.below (X:=[]) hB6) Cu);have hle3:=HB3.out.size;clear hb6 hB6 HB3 HR3 h2B h4;generalize w3.alloc (Obj.cells #[i8 0,i8 0] 28)=wC at *;obtain⟨OW,hOW⟩:∃ OW,OW=(Obj.cells #[.int .u8 37,i8 2,.string ⟨#[43]⟩,.int .u8 26,i8 0,.string ⟨#[97]⟩,.int .u8 37,i8 2,.string ⟨#[42]⟩,.int .u8 26,i8 0,.string ⟨#[98]⟩,.int .u8 26,i8 0,.string ⟨#[99]⟩] 41 (0,0)):=⟨_,rfl⟩;have h8:=B8 wC OW;have hb8:=(N' wC.heap.size wC).alloc (C' _) OW;have h2D:=(hb8.block _ Cs).trans h2C;have h4D:=(hb8.block _ Cs).trans h4C;have h6D:=(hb8.block _ Cs).trans h6;have hR3D:=qD hR3 (Fr.below (X:=[]) hb8) Cu;have hRD:=qD HRC.out (Fr.below (X:=[]) hb8) Cu;have hBD:=dA hBC.out hb8;rw [hOW] at h2D h4D h6D h8 hR3D hRD hBD;clear h2C h4C h6 hb8 hR3 hOW;rw [hs6] at h8;go_upto_region 5 with fail;generalize wC.alloc _=wD at *;obtain⟨g1,g2,_,_⟩:=YB h2D;obtain⟨g3,g4,_,_⟩:=YB h4D;obtain⟨g5,g6,_,_⟩:=YB h6D;have hS:=EY (w:=wD) a1 (some (y8 (w3.heap.size+1) 0)) c1 5 (OX5.map ptG) Ct (qP hRD rfl) (AX8 wD _ h8);have HS:Hid (Calls Tryz.prog 14 #[.slice a1 OX5.length c1,.slice (some (y8 (w3.heap.size+1) 0)) 5 5] wD fun e w'=>e=.returned (.bool true)/\Below wD.heap.size wD w'):=hid hS;obtain⟨f3l,f3k,f3w⟩:=HF3.out;have hP3:=qP hR3D rfl;rcases hP3 with h0|⟨b,off,rfl,hlt,hc⟩
 ·have:=congrArg List.length h0;rw [List.length_map,f3l] at this;cases this
 have e1:∃ x,L3[1]?=some x/\x.kind=59:=by
  cases h:L3[1]? with
  | none=>rw [h] at f3k;cases f3k
  | some x=>rw [h] at f3k;exact⟨x,rfl,Option.some.inj f3k⟩
 have e3:∃ x,L3[3]?=some x/\x.word=[120]:=by
  cases h:L3[3]? with
  | none=>rw [h] at f3w;cases f3w
  | some x=>rw [h] at f3w;exact⟨x,rfl,Option.some.inj f3w⟩
 obtain⟨x1,e1,k1⟩:=e1;obtain⟨x3,e3,k3⟩:=e3;have m1:=(hc 1 (ptG x1) (by rw [List.getElem?_map,e1];rfl)).1;have m3:=(hc 3 (ptG x3) (by rw [List.getElem?_map,e3];rfl)).2.2;rw [show ((ptG x1).k.toNat:Int)=59 by show ((x1.kind.toNat:Nat):Int)=59;rw [k1];rfl,show off+1*3=off+3 by omega] at m1;rw [show (ptG x3).w=[120] from k3,show off+3*3+2=off+11 by omega] at m3;clear e1 k1 e3 k3 hc f3k f3w HF3 h2D h4D h6D h8 hS hR3D hRD hlt;have HBD:=hid hBD;clear hBD;rw [f3l];go_wp2_with (go_at_call 14;refine HS.out.mono ?_;rintro e w9 ⟨rfl,hb9⟩;have q3:=aA hb9 g3;have q4:=aA hb9 g4;have q5:=aA hb9 g5;have q6:=aA hb9 g6;have q1:=aA hb9 m1;have q2:=aA hb9 m3;have HB9:=hid (dA HBD.out hb9);clear hb9 g1 g2 g3 g4 g5 g6 m1 m3);go_ret;exact⟨rfl,HB9.out⟩
end
namespace Rf
open Go.RowKit
variable {w w':World}
end Rf
namespace Rf
open Go.RowKit
variable {w w':World}
theorem PX7 {lo n c:Nat}{T:TypeId}{a:Option Addr}{l:List Tk} (h:w.ownsRow lo T 3 (.slice a n c) l.length (BF l)):n=l.length/\Ck.same7At w a l:=by
 have hn:n=l.length:=Fd
 subst hn;refine⟨rfl,?_⟩;by_cases hl:l=[]
 ·exact .inl hl
 obtain⟨t,r,e⟩:=List.exists_cons_of_ne_nil hl;obtain⟨b,hb,_,hlt,_⟩:=GA h (lH (l:=l) (i:=0) (t:=t) Eu).1;refine .inr ⟨b,0,hb,hlt,fun j p hj=>?_⟩;obtain⟨x0,x1,x2⟩:=lH hj;obtain⟨b0,e0,_,_,y0⟩:=GA h x0;obtain⟨b1,e1,_,_,y1⟩:=GA h x1;obtain⟨b2,e2,_,_,y2⟩:=GA h x2;rw [hb] at e0 e1 e2;cases e0;cases e1;cases e2;simp only [Nat.zero_add];exact⟨y0,y1,y2⟩
theorem TX1 {a:Option Addr}{l:List Tk} (h:Ck.same7At w a l) (hb:Below w.heap.size w w'):Ck.same7At w' a l:=by
 rcases h with h|⟨b,o,e,hl,hc⟩
 ·exact .inl h
 ·exact .inr ⟨b,o,e,Aj hl hb.size,fun j p hj=>by obtain⟨y0,y1,y2⟩:=hc j p hj;exact⟨aA hb y0,aA hb y1,aA hb y2⟩⟩
def xZ0 (er a:Nat) (lt:List Tk) (ln:List Nd5) (w:World) (e:Ending) (w':World):Prop :=
 ∃ ta tc na nc,e=.returned (.tuple #[.agg #[.slice ta lt.length tc,.slice na ln.length nc],.agg #[i8 (er:Int),i8 (a:Int)]])/\Ck.same7At w' ta lt/\Ck.sameNAt w' na ln/\Below w.heap.size w w'
def tX5:qK->Nat × Nat × List Tk × List Nd5|.bad er a=>(er,a,[],[])|.ok l t=>(0,0,l,nodes t)
end Rf
namespace Rf
open Go.RowKit
variable {w w':World}
theorem kX2 (s:List UInt8):Calls Tryz.prog 10 #[.string ⟨s.toArray⟩] w fun e w'=>e=.returned (.bool (decide ((1500:Int) < (s.length:Int))))/\w'=w:=by
 by_cases h:(1500:Int) < (s.length:Int)
 all_goals
  go_in
  go_wp2_with fail;go_ret;exact⟨by simp [h],rfl⟩
end Rf
namespace Ck
open Go.RowKit
variable {w w':World}
theorem VX8 (s:List UInt8) (t:Tk) (hs:s.length<=1125899906842624) (h1:t.fr<=t.to) (h2:t.to<=s.length):Calls Tryz.prog 36 #[.string ⟨s.toArray⟩,gZ0 t] w fun e w'=>e=.returned (.string ⟨(QX6 s t).toArray⟩)/\Below w.heap.size w w':=by
 obtain⟨T,hT⟩:∃ T,T=QX6 s t:=⟨_,rfl⟩;rw [<- hT];have hB:=hid ((N' w.heap.size w).alloc (C' _) (Obj.cells #[.int .u8 (t.kind.toNat:Int),i8 (t.fr:Int),i8 (t.to:Int)] 56));obtain⟨c0,c1,c2,_⟩:=uA (B8 w (Obj.cells #[.int .u8 (t.kind.toNat:Int),i8 (t.fr:Int),i8 (t.to:Int)] 56));have i1:(t.fr:Int)<=(t.to:Int):=Cs
 have i2:(t.to:Int)<=(s.length:Int):=Cs
 unfold QX6 at hT;by_cases h9:t.kind=9
 ·rw [Bb h9] at hT;subst hT;have d9:((t.kind.toNat:Int)==9)=true:=by rw [h9];rfl
  clear h9
  go_in
  exact zbt
 ·rw [Bc h9] at hT;have d9:((t.kind.toNat:Int)==9)=false:=by
   rw [Bi];intro e;exact h9 (UInt8.toNat.inj (show t.kind.toNat=9 by omega))
  have HT:=hid hT;clear hT h9
  go_in
  go_wp2_with fail;go_ret;exact⟨Kl,hB.out⟩
end Ck
namespace Rf
theorem FZ1 (k:UInt8):spW k [59]=false:=by
 unfold spW
 repeat' split
 all_goals rfl
theorem AZ1 {E:Env}{n:Nat} (h:E.word (n:Int)≠[]) (h9:E.kind (n:Int)≠9):E.word (n:Int)=E.text (n:Int):=by
 unfold Env.word at h ⊢;unfold Env.kind at h9;unfold Env.text;rw [Bc Cs] at h h9 ⊢;rw [Bc Cs];cases ht:E.l[((n:Int)).toNat]? with
 | none=>rfl
 | some t =>
  simp only [ht] at h h9 ⊢;rw [Bc h9] at h ⊢;split at h
  ·rename_i h2;rw [Bb h2]
  ·exact absurd rfl h
theorem zZ1 {E:Env}{n:Nat} (h:E.kind (n:Int)=9):E.word (n:Int)=[59]:=by
 unfold Env.kind at h;unfold Env.word;rw [Bc Cs] at h ⊢;cases ht:E.l[((n:Int)).toNat]? with
 | none=>rw [ht] at h;cases h
 | some t=>rw [ht] at h;exact Bb h
theorem vZ1 {E:Env}{k:UInt8}{n:Nat} (h:gB E k (n:Int)=true):E.kind (n:Int)≠9:=by
 intro h9;have hw:=zZ1 h9;unfold gB Env.named Env.literal at h;rw [h9,hw,FZ1,Bc (show ¬ (n:Int)=-1 by omega)] at h;split at h
 ·exact absurd h Ct
 ·split at h
  ·exact absurd h Ct
  ·rw [Bool.and_false] at h;cases h
theorem CZ1 {E:Env}{wd:Int}{f e:Nat}{ks:List Tr} (h:Sp E (.mk 45 wd f e ks)):E.text wd=[60,45]∨(E.text wd≠[60,45]/\∃ x r,ks=x::r/\(wd+1 < (x.fr:Int)↔E.word (wd+1)=[60,45])):=by
 have h1:=h.out.1;obtain⟨n,rfl⟩:∃ n:Nat,wd=(n:Int):=by
  by_cases hn:wd < 0
  ·by_cases h2:wd=-1
   ·subst h2;exact absurd (show false=true from h1) Ct
   ·unfold gB at h1;rw [Bc Ct,Bc Ct,Bc h2] at h1;simp only [Bz,Bq] at h1;omega
  ·exact⟨wd.toNat,Cs⟩
 have h9:=vZ1 h1;have hw:E.word (n:Int)≠[]:=by
  unfold gB at h1;rw [Bc Ct,Bc Ct,Bc Cs] at h1;simp only [Bz,bne_iff_ne,ne_eq] at h1;exact h1.1.2
 by_cases hx:E.text (n:Int)=[60,45]
 ·exact .inl hx
 ·refine .inr ⟨hx,?_⟩;rcases h.1.2 with hc|hc
  ·exact absurd ((AZ1 hw h9).symm.trans hc) hx
  ·exact hc
end Rf
namespace Rf
open Go.RowKit
open Ck (QX6 gZ0 VX8)
theorem EQ0 (l:List Pt3):∀ u∈CF l,u.oneCell'=true:=by
 intro u hu;unfold CF at hu;obtain⟨x,_,hx⟩:=List.mem_flatMap.1 hu;simp only [TJ,List.mem_cons,List.not_mem_nil,or_false] at hx;rcases hx with rfl|rfl|rfl <;> rfl
theorem AQ0 (l:List Pt3):(CF l).length=l.length*3:=by
 induction l with
 | nil=>rfl
 | cons x r ih=>simp only [CF,List.flatMap_cons,V',Ae] at ih ⊢;rw [ih];simp [TJ];omega
theorem MQ0 (a b:List Pt3):CF (a++b)=CF a++CF b:=by simp [CF]
theorem yZ1 {E:Env}{m:Nat}{t:Tk} (ht:E.l[m]?=some t) (h9:E.kind (m:Int)≠9):QX6 E.s t=E.text (m:Int):=by
 unfold Env.kind at h9;rw [Bc Cs] at h9;simp only [Ai,ht] at h9;unfold QX6 Env.text oG;rw [Bc h9,Bc Cs];simp only [Ai,ht,List.drop_take]
def wZ1 (w:World) (k:UInt8) (wd:Int) (f e:Nat) (ka:Option Addr) (n cap:Nat) (wx:World):Prop :=
 Below w.heap.size w wx/\wx.heap[w.heap.size]?=some (.cells #[.int .u8 (k.toNat:Int),i8 wd,i8 (f:Int),i8 (e:Int),.slice ka n cap] 60 (0,0))
theorem wZ1.next {w w1 w2:World}{k:UInt8}{wd:Int}{f e:Nat}{ka:Option Addr}{n cap:Nat} (h:wZ1 w k wd f e ka n cap w1) (hb:Below w1.heap.size w1 w2):wZ1 w k wd f e ka n cap w2 :=
 ⟨dA h.1 hb,(hb.block _ (lt_of_block h.2)).trans h.2⟩
theorem uZ1 {E:Env} (ta:Option Addr) (tcap:Nat) (hs:E.s.length<=1125899906842624) (hfit:∀ t∈E.l,t.fr<=t.to/\t.to<=E.s.length) (hl:E.l.length<=1099511627776):∀ (n:Nat) (t:Tr),cnt t<=n->n<=1000000000000->Sp E t->∀ (w:World) (D:Nat->Prop) (ka:Option Addr) (cap:Nat),Ck.same7At w ta E.l->eX0 w D ka t.kids->(∀ b,D b->b < w.heap.size) ->
  Calls Tryz.prog 23 #[.string ⟨E.s.toArray⟩,.slice ta E.l.length tcap,tv t ka cap] w fun e w'=>∃ v,e=.returned v/\w'.ownsRow w.heap.size 41 3 v (parts E t).length (CF (parts E t))/\Below w.heap.size w w'
 | 0,t,h,_,_,_,_,_,_,_,_,_=>absurd (YR t) Cs
 | n+1,.mk k wd f e ks,h,hn,hsp,w,D,ka,cap,hta,hk,hD=>by
  have HI:=hid (uZ1 ta tcap hs hfit hl n);obtain⟨iN,hiN,hz0,hz1,hz2⟩:=info_parts Tryz.infoPt;have hcl:EB ks<=n:=by simp only [cnt] at h;omega
  have HK:=hid hk;have HDD:=hid hD;have HCL:=hid hcl;have HSP:=hid hsp;have HTA:=hid hta;have HF:=hid (Az hs (Az hfit hl));have hx:=B8 w (Obj.cells #[.int .u8 (k.toNat:Int),i8 wd,i8 (f:Int),i8 (e:Int),.slice ka ks.length cap] 60);have HB0:=hid (show wZ1 w k wd f e ka ks.length cap _ from ⟨(N' w.heap.size w).alloc (C' _) (Obj.cells #[.int .u8 (k.toNat:Int),i8 wd,i8 (f:Int),i8 (e:Int),.slice ka ks.length cap] 60),hx⟩);have hwl:=pR hsp.out.1;have HW9:=hid (fun (m:Nat) (e:wd=(m:Int))=>vZ1 (E:=E) (k:=k) (n:=m) (e ▸ hsp.out.1));clear hk hD h hcl hsp hta hs hfit hl hiN hz0 hz1 hz2;simp only [tv,Tr.kind,Tr.word,Tr.fr,Tr.to,Tr.kids];have hv:=pX0 hx;simp only [bX0] at hv;clear hx
  go_in
  go_upto_if 12 with fail
  generalize hw1:w.alloc (Obj.cells #[.int .u8 (k.toNat:Int),i8 wd,i8 (f:Int),i8 (e:Int),.slice ka ks.length cap] 60)=w1 at *;clear hw1
  go_cut [7] from 10 (fun s7 wx=>s7=.string ⟨(E.text wd).toArray⟩/\wZ1 w k wd f e ka ks.length cap wx)
  case first =>
   rcases hwl with rfl|⟨m,rfl,hm⟩
   ·go_wp2_with fail
    go_meet
    case rel=>exact⟨rfl,HB0.out⟩
   ·have hd:decide ((0:Int)<=(m:Int))=true:=by simp
    obtain⟨t9,ht9⟩:∃ t9,E.l[m]?=some t9:=⟨_,O' hm⟩;have hln:E.l≠[]:=fun e=>by rw [e] at hm;simp at hm
    obtain⟨b9,o9,rfl,hb9,hc9⟩:=HTA.out.resolve_left hln;obtain⟨k0,k1,k2⟩:=hc9 m t9 ht9;have k0:=aA HB0.out.1 k0;have k1:=aA HB0.out.1 k1;have k2:=aA HB0.out.1 k2;have g0:(0:Int)<=(m:Int):=Cs
    have g1:(m:Int) < (E.l.length:Int):=Cs
    have HX:=hid (yZ1 ht9 (HW9.out m rfl));have HT:=hid (VX8 (w:=w1) E.s t9 HF.out.1 (HF.out.2.1 t9 (List.mem_of_getElem? ht9)).1 (HF.out.2.1 t9 (List.mem_of_getElem? ht9)).2);simp only [gZ0] at HT;clear hc9 hb9 hln hm ht9;go_wp2_with fail;refine HT.out.mono ?_;rintro e' w2 ⟨rfl,hb2⟩;have HB2:=hid hb2;clear hb2;go_wp2_with fail
    go_meet
    case rel=>exact⟨by rw [HX.out],HB0.out.next HB2.out⟩
  case rest =>
   clear hv hwl;obtain⟨rfl,hP⟩:=hcut;have HP:=hid hP;have hv:=pX0 hP.2;simp only [bX0] at hv;clear hP HB0;have hwr:IntKind.i64.wrap (wd+1)=wd+1:=by
    have:=pR HSP.out.out.1;have hl:=HF.out.2.2;have:-1<=wd/\wd<=1099511627776:=by rcases this with h|⟨m,h,h2⟩ <;> omega
    simp [IntKind.wrap,IntKind.bits,IntKind.signed];omega
   go_upto_if 22 with fail
   go_cut [7] from 10 (fun s7 wx=>s7=.string ⟨(lD E k wd).toArray⟩/\wZ1 w k wd f e ka ks.length cap wx)
   case first =>
    by_cases k45:k=45
    ·subst k45;rcases CZ1 HSP.out with hh|⟨h1,x,r,hks,hi⟩
     ·have h1:(E.text wd==[60,45])=true:=by rw [hh];rfl
      have HH:=hid hh;clear hh;go_wp2_with fail
      go_meet
      case rel=>exact⟨by unfold lD;rw [Bb rfl,Bb HH.out],HP.out⟩
     ·have HKs:=hid hks;have HW:=hid hi;have HN:=hid h1;replace h1:(E.text wd==[60,45])=false:=by simpa using h1
      obtain⟨b,o,rfl,hb,hr⟩:=HK.out.resolve_left (show ks≠[] by rw [hks];exact List.cons_ne_nil _ _);obtain⟨kx,cx,_,_,e2,_⟩:=QX7 ks o 0 x hr (by rw [hks];rfl);have e2:=aA HP.out.1 e2;rw [show o+0*5+2=o+2 by omega] at e2;have hz:(0:Int) < (ks.length:Int):=by rw [hks];simp
      by_cases hg:E.word (wd+1)=[60,45]
      ·have d2:decide (wd+1 < (x.fr:Int))=true:=decide_eq_true (hi.2 hg);have HG:=hid hg;clear hg hi hks hr hb;go_wp2_with fail;go_big_quiet (fail);go_wp2_with fail
       go_meet
       case rel=>exact⟨by unfold lD;rw [Bb rfl,Bc HN.out,Bb HG.out],HP.out.next (below_drewN (N' _ _) _)⟩
      ·have d2:decide (wd+1 < (x.fr:Int))=false:=decide_eq_false (fun h=>hg (hi.1 h));have HG:=hid hg;clear hg hi hks hr hb;go_wp2_with fail;go_big_quiet (fail);go_wp2_with fail
       go_meet
       case rel=>exact⟨by unfold lD;rw [Bb rfl,Bc HN.out,Bc HG.out],HP.out.next (below_drewN (N' _ _) _)⟩
    ·have dk:(((k.toNat:Nat):Int)==45)=false:=OK (goal:=k) (k:=45) k45 Cs;go_wp2_with fail
     go_meet
     case rel=>exact⟨by unfold lD;rw [Bc k45],HP.out⟩
   case rest =>
    clear hv hwr HP;obtain⟨rfl,hP⟩:=hcut;have HP:=hid hP;have hv:=pX0 hP.2;simp only [bX0] at hv;clear hP;obtain⟨HH,hHH⟩:∃ HH:Pt3,HH=⟨k,ks.length,lD E k wd⟩:=⟨_,rfl⟩;have HHE:=hid hHH;have hpv:TJ HH=[.int .u8 (k.toNat:Int),i8 (ks.length:Int),.string ⟨(lD E k wd).toArray⟩]:=by rw [hHH];rfl
    have HPV:=hid hpv;clear hHH hpv;obtain⟨PW,hPW⟩:∃ PW,PW=lD E k wd:=⟨_,rfl⟩;rw [<- hPW] at HHE HPV;rw [<- hPW];have HPW:=hid hPW;clear hPW;go_wp2_with fail;have hx2:=B8 wc (Obj.cells #[.int .u8 (k.toNat:Int),i8 (ks.length:Int),.string ⟨PW.toArray⟩] 41);have hb2:=HP.out.next ((N' wc.heap.size wc).alloc (C' _) (Obj.cells #[.int .u8 (k.toNat:Int),i8 (ks.length:Int),.string ⟨PW.toArray⟩] 41));have hlt0:=lt_of_block HP.out.2;have hsz0:(wc.alloc (Obj.cells #[.int .u8 (k.toNat:Int),i8 (ks.length:Int),.string ⟨PW.toArray⟩] 41)).heap.size=wc.heap.size+1:=Cu
    generalize wc.alloc (Obj.cells #[.int .u8 (k.toNat:Int),i8 (ks.length:Int),.string ⟨PW.toArray⟩] 41)=w1 at *;have HS:=hid (Az hb2 (Az hx2 (Az hlt0 hsz0)));clear hb2 hx2 hv hlt0 hsz0
    go_loopw [8,9] (fun v u wr=>∃ i:Nat,u=i8 (i:Int)/\i<=ks.length/\Below w.heap.size w wr/\wr.heap[w.heap.size]?=some (.cells #[.int .u8 (k.toNat:Int),i8 wd,i8 (f:Int),i8 (e:Int),.slice ka ks.length cap] 60 (0,0))/\v.ownBlock≠some w.heap.size/\wr.ownsRow w.heap.size 41 3 v (HH::kC E (ks.take i):List Pt3).length (CF (HH::kC E (ks.take i)))) (fun _ u _=>ks.length - (intOf u).toNat)
    case atStart =>
     refine⟨0,rfl,Cs,HS.out.1.1,HS.out.1.2,fun e=>by have:=HS.out.2.2.1;injection e with e;simp at e;omega,?_⟩;refine⟨by simp [AQ0],.inr ⟨wc.heap.size,1,#[.int .u8 (k.toNat:Int),i8 (ks.length:Int),.string ⟨PW.toArray⟩],rfl,by have:=HS.out.2.2.1;omega,HS.out.2.1,by simp [kC],Da,rfl,by simp [kC,CF,HPV.out]⟩⟩
    case round =>
     obtain⟨i,rfl,hi,hbw,hbox,hne,hown⟩:=hrel;have hv:=pX0 hbox;simp only [bX0] at hv;have HB:=hid (Az hbw (Az hbox (Az hne hown)));clear hbw hbox hne hown HS;by_cases hlt:i < ks.length
     ·obtain⟨x,hx⟩:∃ x,ks[i]?=some x:=⟨_,O' hlt⟩;have HX:=hid hx;have hkn:ks≠[]:=fun e=>by rw [e] at hlt;simp at hlt
      obtain⟨b,o,rfl,hb,hr⟩:=HK.out.resolve_left hkn;obtain⟨kx,cx,e0,e1,e2,e3,e4,e5⟩:=QX7 ks o i x hr hx;have hbl:=HDD.out b hb;have HKX:=hid (e5.kept (w':=wr) (D':=D) (fun b hb=>HB.out.1.block b (HDD.out b hb)) (fun _ h=>h));replace e0:=aA HB.out.1 e0;replace e1:=aA HB.out.1 e1;replace e2:=aA HB.out.1 e2;replace e3:=aA HB.out.1 e3;replace e4:=aA HB.out.1 e4;have i0:(0:Int)<=(i:Int):=Cs
      have i1:(i:Int) < (ks.length:Int):=Cs
      clear hx hkn hr e5 hb;go_wp2_with fail;have hb3:=BQ HX.out;have hcp:=YR x;have hkz:=nI E x;refine (HI.out x (by have:=HCL.out;omega) Cs (Sps.mem HSP.out.out.2 (List.mem_of_getElem? HX.out)) wr D kx cx (TX1 HTA.out HB.out.1) HKX.out (fun b hb=>Aj (HDD.out b hb) HB.out.1.size)).mono ?_;rintro e' w2 ⟨v2,rfl,hown2,hb2⟩;have HB2:=hid hb2;have HO2:=hid (qD HB.out.2.2.2 (Fr.below (X:=[]) hb2) Cu);have hwz:=HB.out.1.size;have hw2:=hb2.size;rcases hown2.2 with ⟨_,h0⟩|⟨g,cp,cur,rfl,hg1,hg2,_⟩
      ·omega
      have HN:=hid (show ∀ j u,(CF (parts E x))[j]?=some u->w2.cell? (((y8 g 0):Addr).add j)=some u from fun j u hj=>by
       have hl:j < (parts E x).length*3:=by rw [<- AQ0];exact (Al.1 hj).1
       have:=World.ownsRow.cellAt hown2 j hl;rw [hj] at this;have he:(((y8 g 0):Addr).add j)=(y8 g j):=by
        exact zer
       rw [he,this])
      have hm:(HH::kC E (ks.take i):List Pt3).length=EB (ks.take i)+1:=by rw [Ae,ZK]
      have HM:=hid (show (HH::kC E (ks.take i):List Pt3).length+(parts E x).length<=1000000000001 from by have:=HCL.out;rw [hm,hkz];omega);have HG:=hid hg1;clear hown2 hb2 hb3 hcp hkz hm hg2 hwz hw2 hg1 e0 e1 e2 e3 e4 hv;obtain⟨iN2,hiN,hz0,hz1,hz2⟩:=info_parts Tryz.infoPt;have HIN2:=hid (Az hiN (Az hz0 (Az hz1 hz2)));clear hiN hz0 hz1 hz2;go_wp2_with (at_builtin;refine wpList_append_own_at _ rfl _ _ 25 rfl w.heap.size 41 iN2 _ 3 32 Tryz.underlying25 HIN2.out.1 HIN2.out.2.1 HIN2.out.2.2.1 HIN2.out.2.2.2 rfl Ct u8 (HH::kC E (ks.take i):List Pt3).length _ rfl HO2.out (y8 g 0) (parts E x).length cp (CF (parts E x)) rfl (AQ0 _) HN.out (EQ0 _) (by have:=HM.out;unfold maxLen;omega) (by have:=HM.out;omega) (by have:=HB.out.1.size;have:=HB2.out.size;omega) ?_;intro v' w3 hown3 hgrow hnil hat);have hX:Fr (YD u8) w2 w3:=Fr.grown hgrow (fun k hk=>Gl);have hXm:∀ q∈YD u8,u8.ownBlock=some q/\w.heap.size<=q:=by
       intro q hq;unfold YD at hq;split at hq
       ·rename_i q2 hq2;simp at hq;subst hq;exact⟨hq2,(HB.out.2.2.2.lt _ hq2).1⟩
       ·simp at hq
      have hkl:ks.length<=n:=by have:=HCL.out;have:=fS ks;omega
      have hs1:=HB.out.1.size;have hs2:=HB2.out.size;have hbx:=KX0 HB.out.2.1;have hb02:=dA HB.out.1 HB2.out;have hrow:CF (HH::kC E (ks.take (i+1)))=CF (HH::kC E (ks.take i))++CF (parts E x):=by
       rw [fN HX.out,yI,<- MQ0];simp [kC]
      have hlen:(HH::kC E (ks.take (i+1)):List Pt3).length=(HH::kC E (ks.take i):List Pt3).length+(parts E x).length:=by
       rw [fN HX.out,yI];simp [kC];omega
      have HWR:Hid (wrap64 ((i:Int)+1)=(i:Int)+1):=hid (IntWalk.wrap64_in ((i:Int)+1) ⟨Cs,Cs⟩);go_roundw
      case rel =>
       refine⟨i+1,congrArg (Value.int .i64) HWR.out,Cs,⟨hX.os.trans hb02.os,hX.tape.trans hb02.tape,hX.output.trans hb02.output,An hb02.size hX.size,fun q hq=>?_⟩,?_,?_,?_⟩
       ·rw [hX.block q Cs (fun m=>by have:=(hXm q m).2;omega)];exact hb02.block q hq
       ·rw [hX.block _ Cs (fun m=>HB.out.2.2.1 (hXm _ m).1),HB2.out.block _ Cs];exact HB.out.2.1
       ·rcases hat with h|h
        ·rw [h];exact HB.out.2.2.1
        ·rw [h];intro e;injection e with e;omega
       ·rw [hrow,hlen];exact hown3
      case measure=>exact qZ0 HWR.out hlt
     ·have hie:i=ks.length:=by omega
      have i1:¬ (i:Int) < (ks.length:Int):=Cs
      have HE:=hid hie;clear hie;go_wp2_with fail;go_ret;exact⟨_,rfl,by have:=HB.out.2.2.2;rw [HE.out,List.take_length,HHE.out,HPW.out] at this;exact this,HB.out.1⟩
end Rf
namespace Rf
open Go.RowKit
variable {w w':World}
theorem HZ1 {w0 wx:World}{e a:Value} (h5:wx.heap[w0.heap.size]?=some (.cells #[i8 0,i8 0] 28 (0,0))) (hb:Below w0.heap.size w0 wx) :
  ((wx.setCell (y8 w0.heap.size 0) e).setCell (y8 w0.heap.size 1) a).heap[w0.heap.size]?=some (.cells #[e,a] 28 (0,0))/\Below w0.heap.size w0 ((wx.setCell (y8 w0.heap.size 0) e).setCell (y8 w0.heap.size 1) a)/\Fr [w0.heap.size] wx ((wx.setCell (y8 w0.heap.size 0) e).setCell (y8 w0.heap.size 1) a) :=
 ⟨VD h5 e a,(hb.setCell (p:=(y8 w0.heap.size 0)) (C' _) e).setCell (p:=(y8 w0.heap.size 1)) (C' _) a,(NA _ _ _ _).trans (NA _ _ _ _)⟩
theorem xZ1 (goal:UInt8) (s:List UInt8) (hs:s.length<=1125899906842624):Calls Tryz.prog 13 #[.int .u8 (goal.toNat:Int),.string ⟨s.toArray⟩] w (rW (lM kE goal s) w):=by
 have h5:=B8 w (.cells #[i8 0,i8 0] 28);have hB:=(N' w.heap.size w).alloc (C' _) (Obj.cells #[i8 0,i8 0] 28);have hsz:(w.alloc (.cells #[i8 0,i8 0] 28)).heap.size=w.heap.size+1:=Cu
 have HTW:=hid (fun w1:World=>LX4 (w:=w1) goal s);have HSL:=hid hs;have hTT:∀ r,tD kE goal s=r->lM kE goal s=match r with|.bad e a=>.bad e a|.ok l t=>.ok (parts ⟨s,l,[]⟩ t):=fun r h=>by subst h;rfl
 obtain⟨RR,hRR⟩:∃ RR,RR=tD kE goal s:=⟨_,rfl⟩;have HTT:=hid (hTT RR hRR.symm);rw [<- hRR] at HTW;have HRR:=hid hRR;obtain⟨TT,hT2⟩:∃ TT,TT=lM kE goal s:=⟨_,rfl⟩;rw [<- hT2] at HTT ⊢;clear hRR hTT hT2 hs
 go_in
 go_upto_region 1 with fail;generalize w.alloc (.cells #[i8 0,i8 0] 28)=wA at *;cases RR with
 | bad er a =>
  have hne0:=QP gM HRR.out.symm;have hne2:(((er:Nat):Int)==0)=false:=by simpa using hne0
  unfold kX3 qA zTv at HTW
  dsimp only at HTW
  go_upto_region 2 with (go_at_call 22;refine (HTW.out wA).mono ?_;rintro e w1 ⟨rfl,hb⟩);have k5:=(hb.block _ (lt_of_block h5)).trans h5;have hs1:=hb.size;have HS1:=hid (show w.heap.size < w1.heap.size by omega);have hb1:=hB.trans (hb.mono Cs);have j7:=B8 w1 (Obj.cells #[.int .u8 0,i8 0,i8 0,i8 0,.slice none 0 0] 60);have hb7:=(N' w1.heap.size w1).alloc (C' _) (Obj.cells #[.int .u8 0,i8 0,i8 0,i8 0,.slice none 0 0] 60);have j8:=B8 (w1.alloc (Obj.cells #[.int .u8 0,i8 0,i8 0,i8 0,.slice none 0 0] 60)) (Obj.cells #[i8 (er:Int),i8 (a:Int)] 28);rw [World.size_alloc] at j8;have hb8:=hb7.alloc Cu (Obj.cells #[i8 (er:Int),i8 (a:Int)] 28);have H5:=hid ((hb8.block _ (lt_of_block k5)).trans k5);have HBB:=hid (hb1.trans (hb8.mono hb1.size));clear hb8 hb7 j7 hb1 hb k5 h5 hB hsz hs1 HTW hne0;generalize (w1.alloc (Obj.cells #[.int .u8 0,i8 0,i8 0,i8 0,.slice none 0 0] 60)).alloc (Obj.cells #[i8 (er:Int),i8 (a:Int)] 28)=w2 at *;have e0:=(tA j8).1;have e1:=(tA j8).2.1;obtain⟨c0,c1,f0,f1⟩:=tA H5.out;clear j8;go_upto_region 3 with fail;refine Ce (S:=fun w'=>w'.cell? (y8 (w1.heap.size+1) 0)=some (i8 (er:Int))/\w'.cell? (y8 (w1.heap.size+1) 1)=some (i8 (a:Int))) Cw ?_ (fun hHeld=>?_)
  ·exact⟨e0,e1⟩
  refine tn_ 0 ?_;refine tn_ 1 ?_;refine Cb (rs:=[2]) Cw Cu (Cc (o:=?_) ?_ (fun Kk hKk=>?_) Cd)
  rotate_left
  ·exact Cf
  go_simp;go_wp2_with fail;refine hKk.out _ _ ?_ (fun hHeld2=>?_)
  ·have:=HS1.out;exact⟨drc (xX0 e0 Cs),drc (xX0 e1 Cs)⟩
  clear hKk Kk
  try simp only [Act.put,Q',Z',Aa]
  refine wpAnyH_done Cw ?_ _
  repeat go_step
  have HF:=hid (HZ1 (e:=(i8 (er:Int))) (a:=(i8 (a:Int))) H5.out HBB.out);obtain⟨q5,q6,_⟩:=tA HF.out.1;generalize (w2.setCell (y8 w.heap.size 0) (i8 (er:Int))).setCell (y8 w.heap.size 1) (i8 (a:Int))=w9 at *;refine Ca (v:=.tuple #[.slice none 0 0,qA er a]) ?_ rfl (by rw [HTT.out];exact⟨rfl,HF.out.2.1.drew⟩);simp [results,Tryz.results13,go_sem,q5,q6,qA]
 | ok l t =>
  unfold kX3 qA at HTW
  dsimp only at HTW
  have hsml:=UM gM HRR.out.symm;go_upto_region 2 with (go_at_call 22;refine (HTW.out wA).mono ?_;rintro e w1 ⟨lv,ka,cap,rfl,hrow,hk,hb⟩;simp only [tv];obtain⟨la,lc,rfl⟩:=bE hrow);have k5:=(hb.block _ (lt_of_block h5)).trans h5;have hs1:=hb.size;have HS1:=hid (show w.heap.size < w1.heap.size by omega);have hb1:=hB.trans (hb.mono Cs);have hb7:=(N' w1.heap.size w1).alloc (C' _) (Obj.cells #[.int .u8 (t.kind.toNat:Int),i8 t.word,i8 (t.fr:Int),i8 (t.to:Int),.slice ka t.kids.length cap] 60);have j7:=B8 w1 (Obj.cells #[.int .u8 (t.kind.toNat:Int),i8 t.word,i8 (t.fr:Int),i8 (t.to:Int),.slice ka t.kids.length cap] 60);have j8:=B8 (w1.alloc (Obj.cells #[.int .u8 (t.kind.toNat:Int),i8 t.word,i8 (t.fr:Int),i8 (t.to:Int),.slice ka t.kids.length cap] 60)) (Obj.cells #[i8 0,i8 0] 28);have j7':=(Af (w1.alloc (Obj.cells #[.int .u8 (t.kind.toNat:Int),i8 t.word,i8 (t.fr:Int),i8 (t.to:Int),.slice ka t.kids.length cap] 60)) (Obj.cells #[i8 0,i8 0] 28) w1.heap.size (lt_of_block j7)).trans j7;rw [World.size_alloc] at j8;have hb8:=hb7.alloc Cu (Obj.cells #[i8 0,i8 0] 28);have hs8:((w1.alloc (Obj.cells #[.int .u8 (t.kind.toNat:Int),i8 t.word,i8 (t.fr:Int),i8 (t.to:Int),.slice ka t.kids.length cap] 60)).alloc (Obj.cells #[i8 0,i8 0] 28)).heap.size=w1.heap.size+2:=Cu
  have H5:=hid ((hb8.block _ (lt_of_block k5)).trans k5);have HBB:=hid (hb1.trans (hb8.mono hb1.size));have HRW:=hid (TX1 (PX7 hrow).2 hb8);have HKK:=hid (hk.kept (w':=(w1.alloc (Obj.cells #[.int .u8 (t.kind.toNat:Int),i8 t.word,i8 (t.fr:Int),i8 (t.to:Int),.slice ka t.kids.length cap] 60)).alloc (Obj.cells #[i8 0,i8 0] 28)) (D':=fun b=>b < w1.heap.size) (fun b hb2=>hb8.block b hb2) (fun _ h=>h));clear hb8 hb7 j7 hb1 hb k5 h5 hB hsz hs1 HTW hrow hk;generalize (w1.alloc (Obj.cells #[.int .u8 (t.kind.toNat:Int),i8 t.word,i8 (t.fr:Int),i8 (t.to:Int),.slice ka t.kids.length cap] 60)).alloc (Obj.cells #[i8 0,i8 0] 28)=w2 at *;have e0:=(tA j8).1;have e1:=(tA j8).2.1;obtain⟨t0,t1,t2,t3,t4,_⟩:=pX0 j7';obtain⟨p,m,hNs,hTr⟩:=MO HRR.out.symm;have hfit:=gM.fit _ _ _ hNs;have HPW:=hid (uZ1 (E:=⟨s,l,p⟩) la lc HSL.out hfit.fits (by have:=hfit.small;show l.length<=_;omega) 20000005 t hsml Cs (VO hTr));have HTT:=hid (HTT.out.trans (show eS.ok (parts ⟨s,l,[]⟩ t)=.ok (parts ⟨s,l,p⟩ t) by rw [OI s l [] p]));have HS8:=hid hs8;clear j8 j7' hs8 hsml hfit hNs hTr;go_upto_region 4 with fail;refine Ce (S:=fun w'=>(w'.cell? (y8 w1.heap.size 0)=some (.int .u8 (t.kind.toNat:Int))/\w'.cell? (y8 w1.heap.size 1)=some (i8 t.word)/\w'.cell? (y8 w1.heap.size 2)=some (i8 (t.fr:Int))/\w'.cell? (y8 w1.heap.size 3)=some (i8 (t.to:Int))/\w'.cell? (y8 w1.heap.size 4)=some (.slice ka t.kids.length cap))/\w'.cell? (y8 (w1.heap.size+1) 0)=some (i8 0)/\w'.cell? (y8 (w1.heap.size+1) 1)=some (i8 0)) Cw ?_ (fun hHeld=>?_)
  ·exact⟨⟨t0,t1,t2,t3,t4⟩,e0,e1⟩
  refine tn_ 0 ?_;refine tn_ 1 ?_;refine tn_ 2 ?_;refine tn_ 4 ?_;refine Cb (rs:=[3]) Cw Cu (Cc (o:=?_) ?_ (fun Kk hKk=>?_) Cd)
  rotate_left
  ·exact Cf
  go_simp;go_at_call 23;refine (HPW.out w2.drew (fun b=>b < w1.heap.size) ka cap (TX1 HRW.out (N' _ _).drew) (HKK.out.kept (fun _ _=>rfl) (fun _ h=>h)) (fun b hb=>by have:=HS8.out;show b < w2.heap.size;omega)).mono ?_;rintro e w3 ⟨nv,rfl,hown,hb3⟩;obtain⟨na,nc,rfl⟩:=bE hown;have hk0:=aA hb3 (drc t0);have hk1:=aA hb3 (drc t1);have hk2:=aA hb3 (drc t2);have hk3:=aA hb3 (drc t3);have hk4:=aA hb3 (drc t4);have hk5:=aA hb3 (drc e0);have hk6:=aA hb3 (drc e1);have H5:=hid ((hb3.block _ (lt_of_block H5.out)).trans H5.out);have HBB:=hid (HBB.out.drew.trans (hb3.mono HBB.out.size));have HOW:=hid (YP hown (show w.heap.size+1<=w2.heap.size by have:=HS1.out;have:=HS8.out;omega));clear hown hb3 t0 t1 t2 t3 t4 e0 e1;obtain⟨c0,c1,f0,f1⟩:=tA H5.out;refine hKk.out _ _ ?_ (fun hHeld2=>?_)
  ·exact⟨⟨hk0,hk1,hk2,hk3,hk4⟩,hk5,hk6⟩
  clear hKk Kk
  try simp only [Act.put,Q',Z',Aa]
  refine tn_ 5 ?_;refine Cb (rs:=[6]) Cw Cu (Cc (o:=?_) ?_ (fun Kk hKk=>?_) Cd)
  rotate_left
  ·exact Cf
  go_simp;go_wp2_with fail;have hn1:w.heap.size≠w1.heap.size:=by have:=HS1.out;omega
  have hn2:w.heap.size≠w1.heap.size+1:=by have:=HS1.out;omega
  refine hKk.out _ _ ?_ (fun hHeld6=>?_)
  ·exact⟨⟨xX0 hk0 hn1,xX0 hk1 hn1,xX0 hk2 hn1,xX0 hk3 hn1,xX0 hk4 hn1⟩,xX0 hk5 hn2,xX0 hk6 hn2⟩
  clear hKk Kk
  try simp only [Act.put,Q',Z',Aa]
  refine wpAnyH_done Cw ?_ _
  repeat go_step
  have HF:=hid (HZ1 (e:=i8 0) (a:=i8 0) H5.out HBB.out);have HO9:=hid (YP (CD HOW.out HF.out.2.2 (fun b hb e=>by have:=(HOW.out.lt b e).1;simp at hb;omega)) (show w.heap.size<=w.heap.size+1 by omega));obtain⟨q5,q6,_⟩:=tA HF.out.1;generalize (w3.setCell (y8 w.heap.size 0) (i8 0)).setCell (y8 w.heap.size 1) (i8 0)=w9 at *;refine Ca (v:=.tuple #[.slice na (parts ⟨s,l,p⟩ t).length nc,qA 0 0]) ?_ rfl (by rw [HTT.out];exact⟨_,rfl,HO9.out,HF.out.2.1⟩);simp [results,Tryz.results13,go_sem,q5,q6,qA]
end Rf
section
theorem JZ1 (goal:UInt8) (s:List UInt8) (w:World) (hw:NC w):Calls Tryz.prog 12 #[.int .u8 (goal.toNat:Int),.string ⟨s.toArray⟩] w (rW (lM kE goal s) w):=TS gM goal s w hw
namespace Rf
open Go.RowKit
variable {w w':World}
def IZ1 (er a:Nat) (lp:List Pt3) (w:World) (e:Ending) (w':World):Prop :=
 ∃ pa pc,e=.returned (.tuple #[.slice pa lp.length pc,.agg #[i8 (er:Int),i8 (a:Int)]])/\Grd.tB w' pa (lp.map ptG)/\Below w.heap.size w w'
def DZ1:eS->Nat × Nat × List Pt3|.bad er a=>(er,a,[])|.ok l=>(0,0,l)
theorem GZ1 {r:eS}{e:Ending} (h:rW r w e w'):IZ1 (DZ1 r).1 (DZ1 r).2.1 (DZ1 r).2.2 w e w':=by
 cases r with
 | bad er a=>obtain⟨rfl,hb⟩:=h;exact⟨none,0,rfl,.inl rfl,hb⟩
 | ok l =>
  obtain⟨pv,rfl,h1,hb⟩:=h;obtain⟨pa,pc,rfl⟩:=bE h1;exact⟨pa,pc,rfl,qP h1 rfl,hb⟩
theorem BZ1 {goal:UInt8}{s:List UInt8}:(DZ1 (lM kE goal s)).2.2.length<=20000005:=by
 unfold lM;cases hr:tD kE goal s with
 | bad er a=>exact Nat.zero_le _
 | ok l t =>
  show (parts _ t).length<=_
  rw [nI];exact UM gM hr
theorem tZ1 {a:Option Addr}{l:List Grd.Pt} (h:Grd.tB w a l) (hb:Below w.heap.size w w'):Grd.tB w' a l:=by
 rcases h with h|⟨b,o,e,hl,hc⟩
 ·exact .inl h
 ·exact .inr ⟨b,o,e,Aj hl hb.size,fun j p hj=>by obtain⟨y0,y1,y2⟩:=hc j p hj;exact⟨aA hb y0,aA hb y1,aA hb y2⟩⟩
theorem EZ1 (w:World) (a:Obj):Below w.heap.size w (w.alloc a)/\(w.alloc a).heap[w.heap.size]?=some a:=⟨(N' w.heap.size w).alloc (C' _) a,B8 w a⟩
theorem terms_law (goal:UInt8) (s:List UInt8) (hT:NC w):Calls Tryz.prog 7 #[.int .u8 (goal.toNat:Int),.string ⟨s.toArray⟩] w fun e w'=>e=.returned (.bool true)/\Below w.heap.size w w':=by
 have HF:=hid (fun (w1:World) h=>IX1 (w:=w1) h);have HP:=hid ((JZ1 goal s w hT).mono fun e w' h=>GZ1 h);have HQ:=hid (fun (w1:World) hs=>(xZ1 (w:=w1) goal s hs).mono fun e w' h=>GZ1 h);have HL:=hid (BZ1 (goal:=goal) (s:=s));have HT:=hid hT;generalize DZ1 (lM kE goal s)=r at *;obtain⟨er,a,lp⟩:=r
 dsimp only at HP HQ HL
 clear hT
 go_in
 go_wp2_with fail;refine (kX2 s).mono ?_;rintro e w2 ⟨rfl,rfl⟩;by_cases h:(1500:Int) < (s.length:Int)
 ·have d:decide ((1500:Int) < (s.length:Int))=true:=by simp [h]
  rw [d];clear h d;go_wp2_with fail;refine (HF.out _ HT.out).mono ?_;rintro e w1 ⟨rfl,hb1⟩;have HB:=hid hb1;clear hb1;go_wp2_with fail;go_ret;exact⟨rfl,HB.out⟩
 ·have d:decide ((1500:Int) < (s.length:Int))=false:=by simp [h]
  have HQ2:=hid (fun w1:World=>HQ.out w1 Cs);rw [d];clear h d HQ;go_upto_region 4 with (go_at_call 12;refine HP.out.mono ?_;rintro e w1 ⟨pa,pc,rfl,hs1,hb1⟩);have t1:=EZ1 w1 (.cells #[i8 (er:Int),i8 (a:Int)] 28);generalize w1.alloc (.cells #[i8 (er:Int),i8 (a:Int)] 28)=w3 at *;obtain⟨b13,k1⟩:=t1;have HS:=hid (Az (tZ1 hs1 b13) (Az (hb1.trans (b13.mono hb1.size)) k1));clear hs1 hb1 b13 k1 HP;go_upto_region 5 with (go_at_call 13;refine (HQ2.out w3).mono ?_;rintro e w4 ⟨qa,qc,rfl,hs4,hb4⟩);have t4:=EZ1 w4 (.cells #[i8 (er:Int),i8 (a:Int)] 28);generalize w4.alloc (.cells #[i8 (er:Int),i8 (a:Int)] 28)=w5 at *;obtain⟨b45,k4⟩:=t4;have b35:=dA hb4 b45;have HS5:=hid (Az (tZ1 hs4 b45) (Az (tZ1 HS.out.1 b35) (HS.out.2.1.trans (b35.mono HS.out.2.1.size))));obtain⟨p0,p1,_⟩:=tA ((b35.block _ (lt_of_block HS.out.2.2)).trans HS.out.2.2);obtain⟨p2,p3,_⟩:=tA k4;clear hs4 hb4 b45 b35 HQ2 HS k4;go_wp2_with fail;refine (HF.out _ (HT.out.below HS5.out.2.2)).mono ?_;rintro e w6 ⟨rfl,hb6⟩;have HS6:=hid (Az (tZ1 HS5.out.1 hb6) (Az (tZ1 HS5.out.2.1 hb6) (dA HS5.out.2.2 hb6)));replace p0:=aA hb6 p0;replace p1:=aA hb6 p1;replace p2:=aA hb6 p2;replace p3:=aA hb6 p3;clear hb6 HS5;go_wp2_with fail;have hS:=EY (w:=w6) pa qa pc qc (lp.map ptG) (by have:=HL.out;rw [List.length_map];omega) HS6.out.2.1 HS6.out.1;rw [List.length_map] at hS;refine hS.mono ?_;rintro e w7 ⟨rfl,hb7⟩;have HB7:=hid (dA HS6.out.2.2 hb7);clear hb7;go_wp2_with fail;go_ret;exact⟨rfl,HB7.out⟩
end Rf
end
