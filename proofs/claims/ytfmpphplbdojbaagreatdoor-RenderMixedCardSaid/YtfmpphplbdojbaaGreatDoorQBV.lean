import Derived.Test.YtfmpphplbdojbaaGreatDoorQBO
import Derived.Test.YtfmpphplbdojbaaGreatDoorQBJ
import Derived.Test.YtfmpphplbdojbaaGreatDoorQBU
import Derived.Test.YtfmpphplbdojbaaGreatDoorQAR
namespace Go.Proofs.YtfmpphplbdojbaaGreatDoor
open Lib(hid)
set_option linter.all false
set_option maxHeartbeats 40000000
set_option maxRecDepth 100000
namespace Rnd
open Go.RowKit
open Grd (Pt Fo tB DG)
theorem wQ7 (L:Nat):∀ (l:List Pt) (c m:Nat),DQ3 L (l.map Pt.n) c=some m->∃ f:Fo,f.good/\f.count=c/\f.size=m/\l=f.flat++l.drop m
 | l,0,m,h=>by
  have h:some 0=some m:=by rw [<- h];cases l <;> rfl
  cases h;exact⟨.nil,trivial,rfl,rfl,rfl⟩
 | [],c+1,m,h=>C4
 | p::r,c+1,m,h=>by
  rw [List.map_cons,DQ3] at h;split at h
  ·exact C4
  ·rename_i hk;obtain⟨m1,h1,rfl⟩:=Option.map_eq_some_iff.1 h;obtain⟨f,g1,g2,g3,g4⟩:=wQ7 L r _ _ h1;obtain⟨a1,a2,a3,a4,a5⟩:=Grd.Fo.split p.n.toNat f Cf g1;refine⟨.cons p (f.take p.n.toNat) (f.drop p.n.toNat),⟨by rw [a4];omega,a2,a3⟩,by simp only [Fo.count];rw [a5,g2];omega,?_,?_⟩
   ·have q0:=Grd.Fo.flat_len f;have q1:=Grd.Fo.flat_len (f.take p.n.toNat);have q2:=Grd.Fo.flat_len (f.drop p.n.toNat);have q3:=congrArg List.length a1;rw [O'] at q3;simp only [Fo.size];omega
   ·simp only [Fo.flat,Al,List.drop_succ_cons];rw [<- a1,<- g4]
theorem GQ8 (l:List Pt):(!(l.length==0)&&(QH l 0==(l.length:Int)))=DG (l.map Pt.n):=by
 cases hw:DG (l.map Pt.n) with
 | true =>
  have h0:l≠[]:=by rintro rfl;exact absurd hw Ch
  rw [OQ3 hw];simp [h0]
 | false =>
  rw [Bool.eq_false_iff];intro h;simp only [Bool.and_eq_true,beq_iff_eq] at h;replace h:=h.2;unfold QH at h;rw [List.drop_zero] at h;split at h
  ·rename_i c hc;have hcl:c=l.length:=by omega
   obtain⟨f,g1,g2,g3,g4⟩:=wQ7 _ l 1 c hc;rw [hcl,List.drop_length,List.append_nil] at g4;cases f with
   | nil=>cases g2
   | cons p k r =>
    cases r with
    | nil =>
     have:=(Shp.bQ0 g1.1 g1.2.1).1;simp only [Fo.flat,List.append_nil] at g4;rw [<- g4,hw] at this;cases this
    | cons _ _ _=>simp [Fo.count] at g2
  ·exact Cf
theorem WellR_any (a:Option Addr) (cap:Nat) (l:List Pt) (w:World) (hl:l.length<=3000) (h:tB w a l) :
  Calls Tryz.prog 14 #[.slice a l.length cap] w fun e w'=>e=.returned (.bool (DG (l.map Pt.n)))/\Below w.heap.size w w':=by
 rw [<- GQ8];by_cases h0:l=[]
 ·subst h0;go_enter Tryz.func14,Tryz.ntmps14;go_wp2_with fail;go_ret;exact⟨rfl,J' _ _⟩
 ·obtain⟨b,off,rfl,hb,hc⟩:=h.resolve_left h0;have HE:=hid (MQ3 b off cap l 0 w hl Cf (fun j p hj=>(hc j p hj).2.1));obtain⟨n,hn⟩:∃ n,n=l.length:=⟨_,rfl⟩;rw [<- hn] at HE ⊢;have hn0:n≠0:=by rw [hn];exact fun e=>h0 (Z' e)
  have hpos:(0:Int) < (n:Int):=Cf
  rw [show (n==0)=false by simpa using hn0];clear h h0 hc hn hn0;generalize QH l 0=y at *;obtain⟨R,hR⟩:∃ R:Bool,R=(y==(n:Int)):=⟨_,rfl⟩;rw [<- hR];have HR:=hid hR;clear hR;go_enter Tryz.func14,Tryz.ntmps14;go_wp2_with fail;refine HE.out.mono ?_;rintro e w1 ⟨rfl,hb1⟩;go_wp2_with fail;go_ret;exact⟨by rw [HR.out];rfl,hb1⟩
end Rnd
namespace Ck
open Go.RowKit
open Grd (Pt tB DG)
variable {w w':World}
theorem CQ8 (x1 x2 m x3 sp rest R:Bool) (h:((!x1&&(!x2&&(!(!m&&x3)&&sp)))&&rest)=R):x1=true/\R=false∨x1=false/\x2=true/\R=false∨x1=false/\x2=false/\m=false/\x3=true/\R=false∨x1=false/\x2=false/\m=false/\x3=false/\(sp&&rest)=R∨x1=false/\x2=false/\m=true/\(sp&&rest)=R:=by
 subst h;cases x1 <;> cases x2 <;> cases x3 <;> cases m <;> simp
theorem QQ6 (a:Option Addr) (cap:Nat) (l:List Pt) (hl:l.length<=3000) (h:tB w a l) (hw:∀ p∈l,p.w.length<=1048576) :
  Calls Tryz.prog 24 #[.slice a l.length cap] w (fun e w'=>e=.returned (.int .i64 (if fF l then 0 else 8))/\Below w.heap.size w w'):=by
 have hWl:=Rnd.WellR_any a cap l w hl h;have hC:fF l=(DG (l.map Pt.n)&&l.all AE):=rfl;rw [hC];clear hC;generalize DG (l.map Pt.n)=wl at *;have HP:=hid h;clear h;cases wl with
 | false =>
  rw [Bool.false_and,if_neg Cm];go_enter Tryz.func24,Tryz.ntmps24;go_wp2_with (refine hWl.mono ?_;rintro e w1 ⟨rfl,hb1⟩);go_ret;exact⟨rfl,hb1⟩
 | true =>
 rw [Bool.true_and];obtain⟨R,hRR⟩:∃ R,R=l.all AE:=⟨_,rfl⟩;rw [<- hRR];have HRR:=hid hRR;obtain⟨Z,hZ⟩:∃ Z:Int,Z=if R=true then 0 else 8:=⟨_,rfl⟩
 rw [<- hZ];have HZ:=hid hZ;obtain⟨n,hn⟩:∃ n,n=l.length:=⟨_,rfl⟩;rw [<- hn] at hl hWl ⊢;have HN:=hid hn;clear hRR hZ hn;go_enter Tryz.func24,Tryz.ntmps24;go_wp2_with (refine hWl.mono ?_;rintro e w1 ⟨rfl,hb1⟩);clear hWl
 go_loopw [3] (fun v3 wr=>∃ i:Nat,v3=.int .i64 (i:Int)/\i<=n/\Below w.heap.size w wr/\(l.drop i).all AE=R) (fun v _=>(n - intOf v).toNat)
 case atStart=>exact⟨0,rfl,Cf,hb1,HRR.out.symm⟩
 case round =>
  obtain⟨i,rfl,hj,hB,hR⟩:=hrel;have HB:=hid hB;have HR0:=hid hR;clear hB hR;by_cases hi:i < n
  ·have hil:i < l.length:=by have:=HN.out;omega
   obtain⟨p,hp⟩:∃ p,l[i]?=some p:=⟨l[i],M' hil⟩;have hpw:=hw p (List.mem_of_getElem? hp);rcases HP.out with he|⟨b,off,hab,hbl,hcl⟩
   ·rw [he] at hil;exact absurd hil Cm
   subst hab;obtain⟨y0,y1,y2⟩:=hcl i p hp;have z0:=(HB.out.cell (p:=⟨b,off+i*3,none⟩) hbl).trans y0;have HY:=hid (And.intro hbl (And.intro y0 (And.intro y1 y2)));have hdr:l.drop i=p::l.drop (i+1):=by
    rw [M' hil] at hp;cases hp;exact An hil
   have hR:=HR0.out;rw [hdr,List.all_cons,mQ3] at hR;have HLT:Hid (¬ (rwT p.k).n < 0->p.k.toNat < 69):=hid PQ9;have HRW:=hid (fun w=>jW (w:=w) p.k);unfold sQ8 at HRW;have HSP0:=hid (fun (w:World) hk=>WQ6 (w:=w) p.k p.w hpw hk);have HH0:=hid hR;generalize rwT p.k=r at *;obtain⟨rn,rm,ro,rws⟩:=r
   dsimp only at HRW HH0 HLT
   generalize AC p.k.toNat p.w=sp at *;obtain⟨rest,hrest⟩:∃ rest,rest=(l.drop (i+1)).all AE:=⟨_,rfl⟩;rw [<- hrest] at HH0;have HRE:=hid hrest;clear hrest;have i0:(0:Int)<=(i:Int):=Cf
   have i1:(i:Int) < (n:Int):=Cf
   clear hR hdr hp hcl y0 y1 y2 hbl hil hpw hw;go_wp2_with fail;refine (HRW.out _).mono ?_;rintro e w3 ⟨⟨ra,rfl,hws⟩,hb3⟩;generalize rws.length=rl at *;go_upto_region 7 with fail;have hX:=heap_alloc_new w3 (Obj.cells #[Value.int IntKind.i64 rn,Value.bool rm,Value.bool ro,Value.slice ra rl rl] 83);have hlt3:w3.heap.size < (w3.alloc (Obj.cells #[Value.int IntKind.i64 rn,Value.bool rm,Value.bool ro,Value.slice ra rl rl] 83)).heap.size:=Cm
   have hb4:=(dA HB.out hb3).alloc (dA HB.out hb3).size (Obj.cells #[Value.int IntKind.i64 rn,Value.bool rm,Value.bool ro,Value.slice ra rl rl] 83);generalize w3.alloc (Obj.cells #[Value.int IntKind.i64 rn,Value.bool rm,Value.bool ro,Value.slice ra rl rl] 83)=w4 at *;have HB4:=hid hb4;have HX:=hid (And.intro hX hlt3);have z0:=(HB4.out.cell (p:=⟨b,off+i*3,none⟩) HY.out.1).trans HY.out.2.1;have z1:=(HB4.out.cell (p:=⟨b,off+i*3+1,none⟩) HY.out.1).trans HY.out.2.2.1;have z2:=(HB4.out.cell (p:=⟨b,off+i*3+2,none⟩) HY.out.1).trans HY.out.2.2.2;obtain⟨c0,c1,c2,c3,_,_,_,_⟩:=dQ5 hX;clear hX hlt3 hb4 hb3 hws HRW;have HS:Hid (∀ w',Below w4.heap.size w4 w'->w'.cell? ⟨b,off+i*3,none⟩=some (.int .u8 (p.k.toNat:Int))/\w'.cell? ⟨b,off+i*3+1,none⟩=some (.int .i64 p.n)/\w'.cell? ⟨b,off+i*3+2,none⟩=some (.string ⟨p.w.toArray⟩)/\w'.cell? ⟨w3.heap.size,0,none⟩=some (.int .i64 rn)/\w'.cell? ⟨w3.heap.size,1,none⟩=some (.bool rm)):=hid (fun w' hb=>by
    have hlb:b < w4.heap.size:=Af HY.out.1 HB4.out.size;exact⟨(hb.cell (p:=⟨b,off+i*3,none⟩) hlb).trans z0,(hb.cell (p:=⟨b,off+i*3+1,none⟩) hlb).trans z1,(hb.cell (p:=⟨b,off+i*3+2,none⟩) hlb).trans z2,(hb.cell (p:=⟨w3.heap.size,0,none⟩) HX.out.2).trans c0,(hb.cell (p:=⟨w3.heap.size,1,none⟩) HX.out.2).trans c1⟩)
   rcases CQ8 _ _ _ _ _ _ _ HH0.out with ⟨d1,hr⟩|⟨d1,d2,hr⟩|⟨d1,d2,rfl,d3,hr⟩|⟨d1,d2,rfl,d3,hr⟩|⟨d1,d2,rfl,hr⟩
   iterate 3
    ·have HH:=hid hr;clear hr HS;go_wp2_with fail;go_big_quiet (fail);go_wp2_with fail;go_ret;exact⟨by rw [HZ.out,HH.out];rfl,Num.kL HB4.out _⟩
   ·have HH:=hid hr;have HSP:=hid (fun w=>HSP0.out w (HLT.out (by simpa using d1)));clear hr z0 z1 z2 c0 c1 c2 c3;go_wp2_with fail;have hbd:=(J' w4.heap.size w4).drew;refine wp_region_held_drew (S:=fun w'=>w'.cell? ⟨b,off+i*3,none⟩=some (.int .u8 (p.k.toNat:Int))/\w'.cell? ⟨b,off+i*3+1,none⟩=some (.int .i64 p.n)/\w'.cell? ⟨b,off+i*3+2,none⟩=some (.string ⟨p.w.toArray⟩)/\w'.cell? ⟨w3.heap.size,0,none⟩=some (.int .i64 rn)/\w'.cell? ⟨w3.heap.size,1,none⟩=some (.bool false)) Ci ?_ (fun hHeld=>?_)
    ·exact HS.out _ hbd
    refine tk 0 ?_;try simp only [Act.put,ls]
    refine tk 1 ?_;try simp only [Act.put,ls]
    refine tk 2 ?_;try simp only [Act.put,ls]
    refine tk 3 ?_;try simp only [Act.put,ls]
    refine tk 4 ?_;try simp only [Act.put,ls]
    refine tk 5 ?_;try simp only [Act.put,ls]
    refine tk 6 ?_;try simp only [Act.put,ls]
    refine tk 7 ?_;try simp only [Act.put,ls]
    refine tk 8 ?_;try simp only [Act.put,ls]
    refine tk 9 ?_;try simp only [Act.put,ls]
    refine tk 10 ?_;try simp only [Act.put,ls]
    refine tk 11 ?_;try simp only [Act.put,ls]
    refine tk 12 ?_;try simp only [Act.put,ls]
    refine tk 13 ?_;try simp only [Act.put,ls]
    refine tk 14 ?_;try simp only [Act.put,ls]
    refine tk 15 ?_;try simp only [Act.put,ls]
    refine tk 16 ?_;try simp only [Act.put,ls]
    refine tk 17 ?_;try simp only [Act.put,ls]
    refine tk 18 ?_;try simp only [Act.put,ls]
    refine tk 19 ?_;try simp only [Act.put,ls]
    refine tk 20 ?_;try simp only [Act.put,ls]
    refine tk 21 ?_;try simp only [Act.put,ls]
    refine tk 22 ?_;try simp only [Act.put,ls]
    refine tk 23 ?_;try simp only [Act.put,ls]
    refine tk 24 ?_;try simp only [Act.put,ls]
    refine tk 25 ?_;try simp only [Act.put,ls]
    refine tk 26 ?_;try simp only [Act.put,ls]
    refine tk 27 ?_;try simp only [Act.put,ls]
    refine tk 28 ?_;try simp only [Act.put,ls]
    refine tk 29 ?_;try simp only [Act.put,ls]
    refine tk 30 ?_;try simp only [Act.put,ls]
    refine tk 31 ?_;try simp only [Act.put,ls]
    refine tk 32 ?_;try simp only [Act.put,ls]
    refine tk 33 ?_;try simp only [Act.put,ls]
    refine tk 34 ?_;try simp only [Act.put,ls]
    refine tk 35 ?_;try simp only [Act.put,ls]
    refine tk 36 ?_;try simp only [Act.put,ls]
    refine tk 37 ?_;try simp only [Act.put,ls]
    refine tk 38 ?_;try simp only [Act.put,ls]
    refine wpAnyH_ready (rs:=[39]) Ci Cm (AllReadyH.cons (o:=?_) ?_ (fun K hK=>?_) AllReadyH.nil)
    rotate_left
    ·exact Ax
    go_simp;go_at_call 40;refine (HSP.out _).mono ?_;rintro e w5 ⟨rfl,hb5⟩;have HB5:=hid (dA hbd hb5);clear hb5;refine hK.out _ _ ?_ (fun hHeld1=>?_)
    ·exact HS.out _ HB5.out
    clear hK K
    try simp only [Act.put,ls]
    refine tk 40 ?_;try simp only [Act.put,ls]
    refine tk 41 ?_;try simp only [Act.put,ls]
    refine wpAnyH_done Ci ?_ _;cases sp with
    | true =>
     go_wp2_with fail;go_roundw
     case rel=>exact⟨i+1,Gv,Cf,dA HB4.out HB5.out,by have:=HH.out;rw [Bool.true_and,HRE.out] at this;exact this⟩
     case measure=>simp only [intOf];omega
    | false =>
     go_wp2_with fail;go_ret;exact⟨by rw [HZ.out,<- HH.out];rfl,dA HB4.out HB5.out⟩
   ·have HH:=hid hr;have HSP:=hid (fun w=>HSP0.out w (HLT.out (by simpa using d1)));clear hr z0 z1 z2 c0 c1 c2 c3;go_wp2_with fail;have hbd:=(J' w4.heap.size w4).drew;refine wp_region_held_drew (S:=fun w'=>w'.cell? ⟨b,off+i*3,none⟩=some (.int .u8 (p.k.toNat:Int))/\w'.cell? ⟨b,off+i*3+1,none⟩=some (.int .i64 p.n)/\w'.cell? ⟨b,off+i*3+2,none⟩=some (.string ⟨p.w.toArray⟩)/\w'.cell? ⟨w3.heap.size,0,none⟩=some (.int .i64 rn)/\w'.cell? ⟨w3.heap.size,1,none⟩=some (.bool true)) Ci ?_ (fun hHeld=>?_)
    ·exact HS.out _ hbd
    refine tk 0 ?_;try simp only [Act.put,ls]
    refine tk 1 ?_;try simp only [Act.put,ls]
    refine tk 2 ?_;try simp only [Act.put,ls]
    refine tk 3 ?_;try simp only [Act.put,ls]
    refine tk 4 ?_;try simp only [Act.put,ls]
    refine tk 5 ?_;try simp only [Act.put,ls]
    refine tk 6 ?_;try simp only [Act.put,ls]
    refine tk 7 ?_;try simp only [Act.put,ls]
    refine tk 8 ?_;try simp only [Act.put,ls]
    refine tk 9 ?_;try simp only [Act.put,ls]
    refine tk 10 ?_;try simp only [Act.put,ls]
    refine tk 11 ?_;try simp only [Act.put,ls]
    refine tk 12 ?_;try simp only [Act.put,ls]
    refine tk 13 ?_;try simp only [Act.put,ls]
    refine tk 14 ?_;try simp only [Act.put,ls]
    refine tk 15 ?_;try simp only [Act.put,ls]
    refine tk 16 ?_;try simp only [Act.put,ls]
    refine tk 17 ?_;try simp only [Act.put,ls]
    refine ts 18 ?_;try simp only [Act.put,ls]
    refine ts 19 ?_;try simp only [Act.put,ls]
    refine ts 20 ?_;try simp only [Act.put,ls]
    refine ts 21 ?_;try simp only [Act.put,ls]
    refine ts 22 ?_;try simp only [Act.put,ls]
    refine ts 23 ?_;try simp only [Act.put,ls]
    refine ts 24 ?_;try simp only [Act.put,ls]
    refine ts 25 ?_;try simp only [Act.put,ls]
    refine tk 26 ?_;try simp only [Act.put,ls]
    refine tk 27 ?_;try simp only [Act.put,ls]
    refine tk 28 ?_;try simp only [Act.put,ls]
    refine tk 29 ?_;try simp only [Act.put,ls]
    refine tk 30 ?_;try simp only [Act.put,ls]
    refine tk 31 ?_;try simp only [Act.put,ls]
    refine tk 32 ?_;try simp only [Act.put,ls]
    refine tk 33 ?_;try simp only [Act.put,ls]
    refine tk 34 ?_;try simp only [Act.put,ls]
    refine tk 35 ?_;try simp only [Act.put,ls]
    refine tk 36 ?_;try simp only [Act.put,ls]
    refine tk 37 ?_;try simp only [Act.put,ls]
    refine tk 38 ?_;try simp only [Act.put,ls]
    refine wpAnyH_ready (rs:=[39]) Ci Cm (AllReadyH.cons (o:=?_) ?_ (fun K hK=>?_) AllReadyH.nil)
    rotate_left
    ·exact Ax
    go_simp;go_at_call 40;refine (HSP.out _).mono ?_;rintro e w5 ⟨rfl,hb5⟩;have HB5:=hid (dA hbd hb5);clear hb5;refine hK.out _ _ ?_ (fun hHeld1=>?_)
    ·exact HS.out _ HB5.out
    clear hK K
    try simp only [Act.put,ls]
    refine tk 40 ?_;try simp only [Act.put,ls]
    refine tk 41 ?_;try simp only [Act.put,ls]
    refine wpAnyH_done Ci ?_ _;cases sp with
    | true =>
     go_wp2_with fail;go_roundw
     case rel=>exact⟨i+1,Gv,Cf,dA HB4.out HB5.out,by have:=HH.out;rw [Bool.true_and,HRE.out] at this;exact this⟩
     case measure=>simp only [intOf];omega
    | false =>
     go_wp2_with fail;go_ret;exact⟨by rw [HZ.out,<- HH.out];rfl,dA HB4.out HB5.out⟩
  ·have hT:R=true:=by rw [<- HR0.out,List.drop_of_length_le Hi];rfl
   have HT:=hid hT;have i1:¬ (i:Int) < (n:Int):=Cf
   clear hT;go_wp2_with fail;go_ret;exact⟨by rw [HZ.out,HT.out];rfl,HB.out⟩
end Ck
