import Derived.Test.YtjdllofmhglmiaaGreatDoorQBQ
namespace Go.Proofs.YtjdllofmhglmiaaGreatDoor
open Lib(hid)
set_option linter.all false
set_option maxHeartbeats 40000000
set_option maxRecDepth 100000
section
open Go.RowKit
variable {w w':World}
theorem Tryz.infoN:(Tryz.prog.info? 65).map (fun i=>(i.zero,i.size,i.bytes))=some (some (.agg #[.int .u8 0,i8 0,i8 0,i8 0,i8 0]),5,40):=Cw
def OX3 (wS:World) (Bp:Nat) (tv:Value) (l:List Nd5) (w:World):Prop :=
 ∃ v,w.heap[Bp]?=some (.cells #[tv,v] 37 (0,0))/\w.ownsRow wS.heap.size 65 5 v l.length (tV l)/\Fr [Bp] wS w
theorem dX4 {wS w w2:World}{Bp:Nat}{tv:Value}{l:List Nd5}{x:Nd5}{v:Value}{O:Obj}{gg cap2:Nat} (hBp:Bp < wS.heap.size) (hF:Fr [Bp] wS w) (hp:w.heap[Bp]?=some (.cells #[tv,v] 37 (0,0))) (hown:w.ownsRow wS.heap.size 65 5 v l.length (tV l))
  (hg:(w.alloc O).drew.grownBy w2 v.ownBlock) (ho:w2.ownsRow wS.heap.size 65 5 (.slice (some (y8 gg 0)) (l.length+1) cap2) (l.length+1) (tV l++OY x)) :
  OX3 wS Bp tv (l++[x]) (w2.setCell (y8 Bp 1) (.slice (some (y8 gg 0)) (l.length+1) cap2)):=by
 have hs:=hF.size;have hlt:Bp < w.heap.size:=Cs
 have hB:=((N' w.heap.size w).alloc (C' _) O).drew;have hoc:v.ownBlock≠some Bp:=fun e=>by have:=(hown.lt Bp e).1;omega
 have h2:w2.heap[Bp]?=some (.cells #[tv,v] 37 (0,0)):=(hg.block Bp Ia (fun e=>hoc e.symm)).trans ((hB.block Bp hlt).trans hp);have hX:Fr (YD v) (w.alloc O).drew w2:=Fr.grown hg (fun k hk=>Gl);have hXm:∀ i∈YD v,wS.heap.size<=i:=by
  exact zc1
 have h3:=heap_setCell_same w2 Bp 1 _ _ (.slice (some (y8 gg 0)) (l.length+1) cap2) h2;simp only [Q',Z',Aa] at h3;have hgg:=(ho.lt gg rfl).1;refine⟨_,h3,?_,((hF.trans (Fr.below hB)).trans' hX (fun i hi=>.inr (hXm i hi))).trans (NA Bp 1 w2 _)⟩;rw [aY,V'];exact CD ho (NA Bp 1 w2 _) (fun b hb e=>Ha)
theorem xX6 (wS:World) (Bp Bw:Nat) (tv:Value) (hBp:Bp < wS.heap.size) (hBw:wS.cell? (y8 Bw 0)=some (.func (.func 24) #[] #[p8 Bp,p8 Bw])) (hne:Bw≠Bp) :
  ∀ (n:Nat) (t:Tr),cnt t<=n->∀ (q:Nat) (l:List Nd5) (w:World),nA wS (tU wS Bp) q t->OX3 wS Bp tv l w->l.length+cnt t<=1000000000 ->
   Calls Tryz.prog 24 #[p8 q,p8 Bp,p8 Bw] w (fun e w'=>e=.returned (.tuple #[])/\OX3 wS Bp tv (l++nodes t) w'):=by
 intro n
 induction n with
 | zero=>intro t ht;have:=YR t;omega
 | succ n ih =>
  intro t ht q l w hT hP hl;obtain⟨k,wd,f,te,ks⟩:=t;have IH:=hid ih;clear ih;obtain⟨ka,cap,ps,hq,hD,hrow,htr⟩:=fR hT;obtain⟨v,hp,hown,hF⟩:=hP;have hq1:=hF.at_ (k:=q) (by simp;exact hD.2) hq;have q0:w.cell? (y8 q 0)=some (.int .u8 (k.toNat:Int)):=Gj
  have q1:w.cell? (y8 q 1)=some (i8 wd):=Gj
  have q2:w.cell? (y8 q 2)=some (i8 (f:Int)):=Gj
  have q3:w.cell? (y8 q 3)=some (i8 (te:Int)):=Gj
  have q4:w.cell? (y8 q 4)=some (.slice ka ks.length cap):=Gj
  have p1:w.cell? (y8 Bp 1)=some v:=by simp [World.cell?,hp]
  have pf:w.frozen? (y8 Bp 1)=false:=by simp [World.frozen?,hp]
  obtain⟨va,vc,rfl⟩:=xB hown
  go_in
  go_wp2_with fail;obtain⟨iN,hiN,hz0,hz1,hz2⟩:=info_parts Tryz.infoN;have hlt:Bp < w.heap.size:=Aj hBp hF.size;have hoc:(Value.slice va l.length vc).ownBlock≠some Bp:=fun e=>by have:=(hown.lt Bp e).1;omega
  have hpc:∀ o,(w.alloc o).cell? (y8 Bp 1)=some (.slice va l.length vc):=fun o=>Gb
  have hpz:∀ o,(w.alloc o).frozen? (y8 Bp 1)=false:=fun o=>Ga
  have hqlt:q < w.heap.size:=Aj hD.1 hF.size;have hqo:(Value.slice va l.length vc).ownBlock≠some q:=fun e=>by have:=(hown.lt q e).1;have:=hD.1;omega
  have hqp:Bp≠q:=fun e=>hD.2 e.symm
  have pA:=hpc (.cells #[.int .u8 (k.toNat:Int),i8 (ks.length:Int),i8 wd,i8 (f:Int),i8 (te:Int)] 65);have hal:∀ (i:Nat) (o:Obj),(w.alloc o).drew.cell? (y8 q i)=w.cell? (y8 q i):=fun i o=>World.cell?_of_block (a:=(y8 q i)) (((N' w.heap.size w).alloc (C' _) o).drew.block q hqlt)
  have hsz:wS.heap.size<=w.heap.size:=hF.size
  go_cut [] from 6 (fun wx=>OX3 wS Bp tv (l++[⟨k,ks.length,wd,f,te⟩]) wx)
  case first =>
   refine Ce (S:=fun w'=>w'.cell? (y8 q 0)=some (.int .u8 (k.toNat:Int))/\w'.cell? (y8 q 1)=some (i8 wd)/\w'.cell? (y8 q 2)=some (i8 (f:Int))/\w'.cell? (y8 q 3)=some (i8 (te:Int))/\w'.cell? (y8 q 4)=some (.slice ka ks.length cap)) Cw ?_ (fun hHeld=>?_)
   ·exact Cg
   refine tn_ 0 ?_;refine tn_ 2 ?_;refine tn_ 3 ?_;refine tn_ 4 ?_;refine tn_ 5 ?_;refine tn_ 6 ?_;refine tn_ 7 ?_;refine tn_ 8 ?_;refine tn_ 9 ?_;refine tn_ 10 ?_;refine tn_ 11 ?_;refine tn_ 12 ?_;refine tn_ 13 ?_;refine tn_ 14 ?_;refine tn_ 15 ?_;refine tn_ 16 ?_;refine tn_ 17 ?_;refine tn_ 18 ?_;refine tn_ 19 ?_;refine tn_ 20 ?_;refine tn_ 21 ?_;refine tn_ 22 ?_;refine tn_ 23 ?_;refine Cb (rs:=[1,24]) Cw Cu (Cc (o:=?_) ?_ (fun K hK=>?_) (Cc (o:=?_) ?_ (fun K hK=>?_) Cd))
   rotate_left
   ·exact Cf
   rotate_left 2
   ·exact Cf
   ·skip
    go_simp;go_wp2_with fail;refine hK.out _ _ ?_ (fun hHeld24=>?_)
    ·exact Cg
    clear hK K
    try simp only [Act.put,Q',Z',Aa]
    refine Cb (rs:=[1]) Cw Cu (Cc (o:=?_) ?_ (fun K hK=>?_) Cd)
    rotate_left
    ·exact Cf
    go_simp;go_wp2_with fail;refine hK.out _ _ ?_ (fun hHeld1=>?_)
    ·exact Cg
    clear hK K
    try simp only [Act.put,Q',Z',Aa]
    refine Cb (rs:=[25]) Cw Cu (Cc (o:=?_) ?_ (fun K hK=>?_) Cd)
    rotate_left
    ·exact Cf
    refine step_append_lies _ Db _ _ _ Db wS.heap.size 65 iN _ 5 40 Tryz.underlying35 hiN hz0 hz1 hz2 rfl Cs (.slice va l.length vc) l.length (tV l) Db ((hown.alloc _).drew) (y8 w.heap.size 0) 1 1 (OY ⟨k,ks.length,wd,f,te⟩) Db Db (At (cs:=(OY ⟨k,ks.length,wd,f,te⟩).toArray) (t:=65) (fr:=(0,0)) (B8 w _)) (by simp [OY,Value.oneCell']) Cs Da Cs Cv (w.heap.size+1) Cu ?_;intro gg cap2 w2 hown2 hgrow2 hat2 hlt2;have k2:w2.cell? (y8 Bp 1)=some (.slice va l.length vc):=(hgrow2.cell_far _ Cv (Ne.symm hoc)).trans (hpc _);have z2:w2.frozen? (y8 Bp 1)=false:=(hgrow2.frozen_far _ Cv (Ne.symm hoc)).trans (hpz _);have hap:∀ i:Nat,w2.cell? (y8 q i)=w.cell? (y8 q i):=fun i=>(hgrow2.cell_far (y8 q i) Cv (Ne.symm hqo)).trans (hal i _)
    have hst:∀ i:Nat,(w2.setCell (y8 Bp 1) (.slice (some (y8 gg 0)) (l.length+1) cap2)).cell? (y8 q i)=w.cell? (y8 q i):=fun i=>(World.cell?_setCell_far w2 (y8 Bp 1) (y8 q i) _ hqp).trans (hap i)
    have HPS:=hid (dX4 (x:=⟨k,ks.length,wd,f,te⟩) hBp hF hp hown hgrow2 hown2);clear hgrow2 hown2;refine hK.out _ _ ?_ (fun hHeld25=>?_)
    ·exact Cg
    clear hK K
    try simp only [Act.put,Q',Z',Aa]
    refine tn_ 26 ?_;refine Cb (rs:=[27]) Cw Cu (Cc (o:=?_) ?_ (fun K hK=>?_) Cd)
    rotate_left
    ·exact Cf
    go_simp;go_wp2_with fail;refine hK.out _ _ ?_ (fun hHeld27=>?_)
    ·exact Cg
    clear hK K
    try simp only [Act.put,Q',Z',Aa]
    refine wpAnyH_done Cw ?_ _;go_wp2_with fail
    go_meet
    case rel=>exact HPS.out
   ·skip
    go_simp;go_wp2_with fail;refine hK.out _ _ ?_ (fun hHeld1=>?_)
    ·exact Cg
    clear hK K
    try simp only [Act.put,Q',Z',Aa]
    refine Cb (rs:=[24]) Cw Cu (Cc (o:=?_) ?_ (fun K hK=>?_) Cd)
    rotate_left
    ·exact Cf
    go_simp;go_wp2_with fail;refine hK.out _ _ ?_ (fun hHeld24=>?_)
    ·exact Cg
    clear hK K
    try simp only [Act.put,Q',Z',Aa]
    refine Cb (rs:=[25]) Cw Cu (Cc (o:=?_) ?_ (fun K hK=>?_) Cd)
    rotate_left
    ·exact Cf
    refine step_append_lies _ Db _ _ _ Db wS.heap.size 65 iN _ 5 40 Tryz.underlying35 hiN hz0 hz1 hz2 rfl Cs (.slice va l.length vc) l.length (tV l) Db ((hown.alloc _).drew) (y8 w.heap.size 0) 1 1 (OY ⟨k,ks.length,wd,f,te⟩) Db Db (At (cs:=(OY ⟨k,ks.length,wd,f,te⟩).toArray) (t:=65) (fr:=(0,0)) (B8 w _)) (by simp [OY,Value.oneCell']) Cs Da Cs Cv (w.heap.size+1) Cu ?_;intro gg cap2 w2 hown2 hgrow2 hat2 hlt2;have k2:w2.cell? (y8 Bp 1)=some (.slice va l.length vc):=(hgrow2.cell_far _ Cv (Ne.symm hoc)).trans (hpc _);have z2:w2.frozen? (y8 Bp 1)=false:=(hgrow2.frozen_far _ Cv (Ne.symm hoc)).trans (hpz _);have hap:∀ i:Nat,w2.cell? (y8 q i)=w.cell? (y8 q i):=fun i=>(hgrow2.cell_far (y8 q i) Cv (Ne.symm hqo)).trans (hal i _)
    have hst:∀ i:Nat,(w2.setCell (y8 Bp 1) (.slice (some (y8 gg 0)) (l.length+1) cap2)).cell? (y8 q i)=w.cell? (y8 q i):=fun i=>(World.cell?_setCell_far w2 (y8 Bp 1) (y8 q i) _ hqp).trans (hap i)
    have HPS:=hid (dX4 (x:=⟨k,ks.length,wd,f,te⟩) hBp hF hp hown hgrow2 hown2);clear hgrow2 hown2;refine hK.out _ _ ?_ (fun hHeld25=>?_)
    ·exact Cg
    clear hK K
    try simp only [Act.put,Q',Z',Aa]
    refine tn_ 26 ?_;refine Cb (rs:=[27]) Cw Cu (Cc (o:=?_) ?_ (fun K hK=>?_) Cd)
    rotate_left
    ·exact Cf
    go_simp;go_wp2_with fail;refine hK.out _ _ ?_ (fun hHeld27=>?_)
    ·exact Cg
    clear hK K
    try simp only [Act.put,Q',Z',Aa]
    refine wpAnyH_done Cw ?_ _;go_wp2_with fail
    go_meet
    case rel=>exact HPS.out
  case rest =>
   clear p1 pf hpc hpz pA hal hsz hlt hoc hqlt hqo hqp q0 q1 q2 q3 q4 hown hq1 hp hF hiN hz0 hz1 hz2;have hP1:=hcut;have hk4:∀ {l9:List Nd5}{wx:World},OX3 wS Bp tv l9 wx->wx.cell? (y8 q 4)=some (.slice ka ks.length cap):=fun h=>by
    obtain⟨_,_,_,hF⟩:=h;have h1:=hF.at_ (k:=q) (by simp;exact hD.2) hq;simp [World.cell?,h1]
   have hw4:∀ {l9:List Nd5}{wx:World},OX3 wS Bp tv l9 wx->wx.cell? (y8 Bw 0)=some (.func (.func 24) #[] #[p8 Bp,p8 Bw]):=fun h=>by
    obtain⟨_,_,_,hF⟩:=h;exact hF.cell (a:=(y8 Bw 0)) Ex hBw
   have HK4:Hid (∀ (l9:List Nd5) (wx:World),OX3 wS Bp tv l9 wx->wx.cell? (y8 q 4)=some (.slice ka ks.length cap)):=fun _ _ h=>hk4 h
   have HW4:Hid (∀ (l9:List Nd5) (wx:World),OX3 wS Bp tv l9 wx->wx.cell? (y8 Bw 0)=some (.func (.func 24) #[] #[p8 Bp,p8 Bw])):=fun _ _ h=>hw4 h
   have c4:=hk4 hP1;clear hk4 hw4 hcut;have hcf:∀ (p1:Nat) (w1:World),Sem.run Tryz.prog (callFunc 24 #[p8 p1,p8 Bp,p8 Bw]) w1=.ok (.enter 24 #[p8 p1,p8 Bp,p8 Bw]) w1:=fun _ _=>cF Cw _ _
   have HT:=hid (Az hrow (Az htr (Az ht hl)));clear hrow htr ht hl hT hD hq;have hkl:((ks.length:Nat):Int)<=1000000000:=by have h1:=fS ks;have h2:=HT.out.2.2.2;simp only [cnt] at h2;omega
   go_wp2_with fail
   go_loopg [38] ks.length (fun j v wr=>∃ i:Nat,v=i8 (i:Int)/\i+j=ks.length/\OX3 wS Bp tv (l++[⟨k,ks.length,wd,f,te⟩]++mG (ks.take i)) wr)
   case atStart=>exact⟨0,rfl,Cs,by simpa [mG] using hP1⟩
   case round =>
    clear hP1 c4;obtain⟨i,rfl,hij,hPi⟩:=hrel;have c4:=HK4.out _ _ hPi;have cw:=HW4.out _ _ hPi;by_cases hlt:i < ks.length
    ·have hd:decide (((i:Nat):Int) < ((ks.length:Nat):Int))=true:=by simpa using hlt
     have hi0:(0:Int)<=(i:Int):=Cs
     have hi1:(i:Int) < (ks.length:Int):=Cs
     have hwr:IntKind.i64.wrap ((i:Int)+1)=(i:Int)+1:=Cy
     obtain⟨x,hx⟩:∃ x,ks[i]?=some x:=⟨_,O' hlt⟩;obtain⟨p1,hp1,hTp⟩:=fA.get i x HT.out.2.1 hx;rcases HT.out.1 with he|⟨b,o,rfl,hb,hrc⟩
     ·rw [he] at hp1;simp at hp1
     have hcell:∀ {l9:List Nd5}{wx:World},OX3 wS Bp tv l9 wx->wx.cell? (y8 b (o+i))=some (p8 p1):=fun h=>by
      obtain⟨_,_,_,hF⟩:=h;exact hF.cell (a:=(y8 b (o+i))) (by simpa using hb.2) (hrc i p1 hp1)
     have ck:=hcell hPi;clear hcell hrc;have HPI:=hid hPi;have hbound:=BQ hx;go_wp2_with fail;refine (IH.out x (by have:=HT.out.2.2.1;simp only [cnt] at this;omega) p1 _ _ hTp HPI.out ?_).mono ?_
     ·have:=HT.out.2.2.2;simp only [cnt] at this;simp only [V',Ae,Am,pQ];omega
     rintro e w5 ⟨rfl,hP5⟩;clear c4 cw ck HPI hPi;go_wp2_with fail;go_roundg (ks.length - (i+1))
     case measure=>omega
     case rel=>exact⟨i+1,Cu,Cs,by rw [fN hx,tM];simpa [mG] using hP5⟩
    ·have hd:decide (((i:Nat):Int) < ((ks.length:Nat):Int))=false:=by simpa using hlt
     have hie:i=ks.length:=Cs
     go_wp2_with fail
     go_returns
     refine⟨rfl,?_⟩;rw [hie,List.take_length] at hPi;simpa [nodes] using hPi
end
section
open Go.RowKit
variable {w w':World}
def JX2 (r:qK) (w:World) (e:Ending) (w':World):Prop :=
 match r with
 | .bad err a=>e=.returned (.tuple #[.agg #[.slice none 0 0,.slice none 0 0],qA err a])/\Below w.heap.size w w'
 | .ok l t=>∃ tv nv,e=.returned (.tuple #[.agg #[tv,nv],qA 0 0])/\w'.ownsRow w.heap.size 56 3 tv l.length (BF l)/\w'.ownsRow w.heap.size 65 5 nv (nodes t).length (tV (nodes t))/\Below w.heap.size w w'
theorem yX3 {N:List UInt8->uH} (HN:LJ N) (goal:UInt8) (s:List UInt8) (w:World) (hw:NC w) :
  Calls Tryz.prog 15 #[.int .u8 (goal.toNat:Int),.string ⟨s.toArray⟩] w (JX2 (tD N goal s) w):=by
 have HNN:=hid HN;clear HN
 go_in
 have h4:=B8 w (.cells #[.slice none 0 0,.slice none 0 0] 37);have h5:=B8 (w.alloc (.cells #[.slice none 0 0,.slice none 0 0] 37)) (.cells #[i8 0,i8 0] 28);have h4':=(((N' (w.alloc (.cells #[.slice none 0 0,.slice none 0 0] 37)).heap.size _).alloc (C' _) (Obj.cells #[i8 0,i8 0] 28)).block w.heap.size Cu).trans h4;have hB:=((N' w.heap.size w).alloc (C' _) (Obj.cells #[.slice none 0 0,.slice none 0 0] 37)).alloc Cu (Obj.cells #[i8 0,i8 0] 28);have HW:=hid (hw.below hB);clear hw;have hsz:((w.alloc (.cells #[.slice none 0 0,.slice none 0 0] 37)).alloc (.cells #[i8 0,i8 0] 28)).heap.size=w.heap.size+1+1:=Cu
 rw [World.size_alloc] at h5;go_wp2_with fail;generalize ((w.alloc (.cells #[.slice none 0 0,.slice none 0 0] 37)).alloc (.cells #[i8 0,i8 0] 28))=wA at *;clear h4;refine (xT HNN.out goal s wA HW.out).mono ?_;intro e w1 hA;cases hr:tD N goal s with
 | bad er a =>
  rw [hr] at hA;obtain⟨va,vn,vc,rfl,hb⟩:=hA;have hne:((er:Nat):Int)≠0:=by have:=QP HNN.out hr;omega
  have hne2:(((er:Nat):Int)==0)=false:=Ex
  have k4:=(hb.block _ Cs).trans h4';have k5:=(hb.block _ Cs).trans h5;have hs1:=hb.size;have j4:=(((N' w1.heap.size w1).alloc (C' _) (Obj.cells #[i8 (er:Int),i8 (a:Int)] 28)).block w.heap.size Cs).trans k4;have j5:=(((N' w1.heap.size w1).alloc (C' _) (Obj.cells #[i8 (er:Int),i8 (a:Int)] 28)).block (w.heap.size+1) Cs).trans k5;have j8:=B8 w1 (.cells #[i8 (er:Int),i8 (a:Int)] 28);have HB2:=((hB.trans (hb.mono Cs)).alloc Cs (Obj.cells #[i8 (er:Int),i8 (a:Int)] 28));have hn1:w1.heap.size≠w.heap.size:=Cs
  have hn2:w1.heap.size≠w.heap.size+1:=Cs
  have HN:=hid (Az hn1 hn2);unfold qA;go_wp2_with fail;generalize w1.alloc (.cells #[i8 (er:Int),i8 (a:Int)] 28)=w2 at *;obtain⟨c1,c2,c3,c4⟩:=YB j4;obtain⟨d1,d2,d3,d4⟩:=YB j5;obtain⟨e1,e2,e3,e4⟩:=YB j8;obtain⟨s1,s2⟩:=ON j4 (.slice none 0 0) (.slice none 0 0);obtain⟨s3,s4⟩:=ON (s2.at_ Cu j5) (i8 (er:Int)) (i8 (a:Int));have s5:=s4.at_ Cu s1;have HB3:=hid ((((HB2.setCell (p:=(y8 w.heap.size 0)) (C' _) (.slice none 0 0)).setCell (p:=(y8 w.heap.size 1)) (C' _) (.slice none 0 0)).setCell (p:=(y8 (w.heap.size+1) 0)) (Nat.le_succ _) (i8 (er:Int))).setCell (p:=(y8 (w.heap.size+1) 1)) (Nat.le_succ _) (i8 (a:Int)));clear s1 s2 s4 HB2 h5 h4' hB hb k4 k5 j4 j5 j8 hs1 hsz;go_region
  all_goals (go_wp2_with fail)
  all_goals (
   generalize ((((w2.setCell (y8 w.heap.size 0) (.slice none 0 0)).setCell (y8 w.heap.size 1) (.slice none 0 0)).setCell (y8 (w.heap.size+1) 0) (i8 (er:Int))).setCell (y8 (w.heap.size+1) 1) (i8 (a:Int)))=w3 at *;obtain⟨y1,y2,_,_⟩:=YB s5;obtain⟨y3,y4,_,_⟩:=YB s3;refine Ca (v:=.tuple #[.agg #[.slice none 0 0,.slice none 0 0],qA er a]) ?_ rfl ?_
   ·simp [results,Tryz.results15,go_sem,y1,y2,y3,y4,qA]
   ·rw [hr];exact⟨rfl,HB3.out.drew⟩)
 | ok l t =>
  rw [hr] at hA;obtain⟨tv,q,rfl,ht,hN,hb⟩:=hA;obtain⟨ta,tc,rfl⟩:=xB ht;unfold qA;have hcf:∀ (p1 b1 b2:Nat) (w1:World),Sem.run Tryz.prog (callFunc 24 #[p8 p1,p8 b1,p8 b2]) w1=.ok (.enter 24 #[p8 p1,p8 b1,p8 b2]) w1:=fun _ _ _ _=>cF Cw _ _
  obtain⟨b8,b9,b10,hB3,hsz3⟩:=gV w1 (.cells #[i8 0,i8 0] 28) (.cells #[.slice ta l.length tc,.slice none 0 0] 37) (.cells #[.nilFunc] 51);go_upto_region 6 with fail;generalize (((w1.alloc (.cells #[i8 0,i8 0] 28)).alloc (.cells #[.slice ta l.length tc,.slice none 0 0] 37)).alloc (.cells #[.nilFunc] 51))=wB at *;have c10:wB.cell? ⟨w1.heap.size+1+1,0,none⟩=some .nilFunc:=by simp [World.cell?,b10]
  have f10:wB.frozen? ⟨w1.heap.size+1+1,0,none⟩=false:=by simp [World.frozen?,b10]
  have k10:=heap_setCell_same wB (w1.heap.size+1+1) 0 _ _ (.func (.func 24) #[] #[.pointer (some (y8 (w1.heap.size+1) 0)),.pointer (some ⟨w1.heap.size+1+1,0,none⟩)]) b10;have g10:=NA (w1.heap.size+1+1) 0 wB (.func (.func 24) #[] #[.pointer (some (y8 (w1.heap.size+1) 0)),.pointer (some ⟨w1.heap.size+1+1,0,none⟩)]);have k9:=g10.at_ (k:=w1.heap.size+1) Cu b9;have k8:=g10.at_ (k:=w1.heap.size) Cv b8;have hFS:Fr [w1.heap.size+1+1] w1 (wB.setCell ⟨w1.heap.size+1+1,0,none⟩ (.func (.func 24) #[] #[.pointer (some (y8 (w1.heap.size+1) 0)),.pointer (some ⟨w1.heap.size+1+1,0,none⟩)])):=(Fr.below hB3).trans g10;have hszS:(wB.setCell ⟨w1.heap.size+1+1,0,none⟩ (.func (.func 24) #[] #[.pointer (some (y8 (w1.heap.size+1) 0)),.pointer (some ⟨w1.heap.size+1+1,0,none⟩)])).heap.size=w1.heap.size+1+1+1:=by simpa using hsz3
  have c10':(wB.setCell ⟨w1.heap.size+1+1,0,none⟩ (.func (.func 24) #[] #[.pointer (some (y8 (w1.heap.size+1) 0)),.pointer (some ⟨w1.heap.size+1+1,0,none⟩)])).cell? ⟨w1.heap.size+1+1,0,none⟩=some (.func (.func 24) #[] #[.pointer (some (y8 (w1.heap.size+1) 0)),.pointer (some ⟨w1.heap.size+1+1,0,none⟩)]):=by simp [World.cell?,k10]
  go_wp2_with fail;generalize wB.setCell ⟨w1.heap.size+1+1,0,none⟩ (.func (.func 24) #[] #[.pointer (some (y8 (w1.heap.size+1) 0)),.pointer (some ⟨w1.heap.size+1+1,0,none⟩)])=wS at *;have hP0:OX3 wS (w1.heap.size+1) (.slice ta l.length tc) [] wS:=⟨_,k9,Av _ _ _ _,Fr.refl _ _⟩;have hTS:nA wS (tU wS (w1.heap.size+1)) q t:=nA.kept (w:=w1) (w':=wS) (D:=within wA.heap.size w1.heap.size) (D':=tU wS (w1.heap.size+1)) (fun b hb'=>hFS.block b hb'.2 (by have:=hb'.2;simp;omega)) (fun b hb'=>⟨Jm,Jm⟩) q t hN;refine (xX6 wS (w1.heap.size+1) (w1.heap.size+1+1) (.slice ta l.length tc) Cs c10' Cs (cnt t) t (C' _) q [] wS hTS hP0 (by have:=UM HNN.out hr;simp;omega)).mono ?_;rintro e w5 ⟨rfl,nv,n1,n2,n3⟩;rw [Ar] at n2;have HZ:=hid (Az ht (Az hFS (Az n2 (Az n3 (Az hszS (Az hsz (Az hb hB)))))));have hsb:=hb.size;have m5:=n3.at_ (k:=w.heap.size+1) Cv (hFS.at_ (k:=w.heap.size+1) Cv ((hb.block _ Cs).trans h5));have m4:=n3.at_ (k:=w.heap.size) Cv (hFS.at_ (k:=w.heap.size) Cv ((hb.block _ Cs).trans h4'));have m8:=n3.at_ (k:=w1.heap.size) Cu k8;clear ht hFS n2 n3 hb hB hP0 hTS k8 k9 k10 b8 b9 b10 c10 c10' f10 h5 h4' hN hsz3 hB3 g10;obtain⟨na,nc,rfl⟩:=xB HZ.out.2.2.1;go_wp2_with fail;have hn1:w1.heap.size≠w.heap.size:=Cs
  have hn2:w1.heap.size≠w.heap.size+1:=Cs
  have hn3:w1.heap.size+1≠w.heap.size:=Cs
  have hn4:w1.heap.size+1≠w.heap.size+1:=Cs
  obtain⟨c1,c2,c3,c4⟩:=YB m4;obtain⟨d1,d2,d3,d4⟩:=YB m5;obtain⟨e1,e2,e3,e4⟩:=YB m8;obtain⟨g1,g2,g3,g4⟩:=YB n1;obtain⟨s1,s2⟩:=ON m4 (.slice ta l.length tc) (.slice na (nodes t).length nc);obtain⟨s3,s4⟩:=ON (s2.at_ Cu m5) (i8 0) (i8 0);have s5:=s4.at_ Cu s1;have HS:=hid (Az s2 s4);have HN:=hid hsb;clear s1 s2 s4 m4 m5 m8 n1 hsb hszS hsz;go_region
  all_goals (go_wp2_with fail)
  all_goals (
   generalize ((((w5.setCell (y8 w.heap.size 0) (.slice ta l.length tc)).setCell (y8 w.heap.size 1) (.slice na (nodes t).length nc)).setCell (y8 (w.heap.size+1) 0) (i8 0)).setCell (y8 (w.heap.size+1) 1) (i8 0))=w3 at *;obtain⟨y1,y2,_,_⟩:=YB s5;obtain⟨y3,y4,_,_⟩:=YB s3;refine Ca (v:=.tuple #[.agg #[.slice ta l.length tc,.slice na (nodes t).length nc],qA 0 0]) ?_ rfl ?_
   ·simp [results,Tryz.results15,go_sem,y1,y2,y3,y4,qA]
   ·rw [hr];obtain⟨z1,z2,z3,z4,z5,z6,z7,z8⟩:=HZ.out;obtain⟨x1,x2⟩:=HS.out;have hsb:=HN.out;have hD:Fr [] w3 w3.drew:=Fr.below (N' _ _).drew;refine⟨_,_,rfl,?_,?_,?_⟩
    ·refine YP (lo:=wA.heap.size) (CD (CD (CD (CD (CD z1 z2 ?_) z4 ?_) x1 ?_) x2 ?_) hD Cu) Cs
     all_goals (intro b hb e;simp at hb;have:=z1.lt b e;omega)
    ·refine YP (lo:=wS.heap.size) (CD (CD (CD z3 x1 ?_) x2 ?_) hD Cu) Cs
     all_goals (intro b hb e;simp at hb;have:=z3.lt b e;omega)
    ·have b1:=z8.trans (z7.mono (show w.heap.size<=wA.heap.size by omega));exact (GD x2 (GD x1 (GD z4 (GD z2 b1 Cv) Cv) Cu) Cu).drew)
end
