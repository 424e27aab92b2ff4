import Derived.Lib.QuoteLoop
import Derived.Test.YtjdllofmhglmiaaGreatDoorQAH
namespace Go.Proofs.YtjdllofmhglmiaaGreatDoor
open Lib(hid)
set_option linter.all false
set_option maxHeartbeats 40000000
set_option maxRecDepth 100000
section
open Go.RowKit
variable {w:World}
theorem pX {l:List UInt8} (h:l≠[]):(dec l).2<=l.length:=by
 exact zb0
def vD (l:List UInt8) (m:UInt8) (k:Nat):Nat:=if m=39 then (vB l k).2.toNat else 1
theorem oI (l:List UInt8) (k:Nat) (h:k < l.length):0<=(vB l k).2/\(vB l k).2<=l.length - k:=by
 have hne:l.drop k≠[]:=Ed
 have h1:=pX hne;simp only [Ab] at h1;unfold vB;rw [Bc Cs,Ai];split
 ·exact⟨Int.le_refl _,Cs⟩
 ·exact⟨by show (0:Int)<=_;omega,by show ((dec (l.drop k)).2:Int)<=_;omega⟩
theorem tN (l:List UInt8) (m:UInt8) (k:Nat) (h:k < l.length):vD l m k<=l.length - k:=by
 have:=oI l k h;unfold vD;split <;> omega
def PD (l:List UInt8) (m:UInt8) (q:Qs):Qs:=⟨q.k+vD l m q.k,q.out++(l.drop q.k).take (vD l m q.k),decide (vD l m q.k=0)||decide (l[q.k]?.getD 0=10)⟩
theorem IR {c:Nat}{w0:World}{l:List UInt8}{m:UInt8}{k:Nat}{out:List UInt8} (H:Rq c w0 l m ⟨k,out,false⟩ w) (hl:l.length<=1048576) (hkl:k < l.length) (ho:out.length<=4*k) (hT:NC w) :
  Calls Tryz.prog 292 #[p8 c] w (fun e w'=>e=.returned (.tuple #[])/\Rq c w0 l m (PD l m ⟨k,out,false⟩) w'):=by
 have hle:=tN l m k hkl;have hr2:=oI l k hkl;have hNd:vD l m k=if m=39 then (vB l k).2.toNat else 1:=rfl
 unfold PD;simp only [];obtain⟨n,hn⟩:∃ n,n=vD l m k:=⟨_,rfl⟩;rw [<- hn] at hle hNd ⊢;have hB:(decide (n=0)||decide (l[k]?.getD 0=10))=(((n:Int)==0)||((l[k].toNat:Int)==10)):=by
  rw [O' hkl];have e1:decide (n=0)=((n:Int)==0):=by rw [Bg];simp
  have e2:decide ((some l[k]).getD 0=10)=((l[k].toNat:Int)==10):=by
   rw [Bg];simp only [Bq,Option.getD_some,Bh];exact⟨fun h=>by rw [h];rfl,fun h=>Ay.1 (by show _=10;omega)⟩
  rw [e1,e2]
 rw [hB];obtain⟨B,hBB⟩:∃ B,B=(((n:Int)==0)||((l[k].toNat:Int)==10)):=⟨_,rfl⟩;rw [<- hBB];have HBB:=hid hBB;clear hB hBB;have HN:=hid (Az hNd hr2);clear hn hNd hr2;have HH:=hid H;obtain⟨ov,hblk,hown⟩:=H.blk;obtain⟨c0,c1,c2,c3,c4,f1,f2,f3,f4⟩:=CA hblk;simp only [] at c0 c1 c2 c3 c4;clear hblk hown H
 go_in
 go_upto_if 7 with fail
 go_cut [2] from 3 (fun v wx=>v=i8 (n:Int)/\Rq c w0 l m ⟨k,out,false⟩ wx)
 case first =>
  have hread:=QI (w:=w.drew) l k Cs hT.drew;by_cases hm:m=39
  ·have d0:((m.toNat:Int)==39)=true:=by subst hm;rfl
   go_wp2_with fail
   go_region_law ((go_simp;go_at_call 217;refine hread.mono ?_;rintro e w2 ⟨rfl,hb⟩))
   all_goals
    go_wp2_with fail
    go_meet
    case rel=>exact⟨by have:=HN.out;rw [Bb hm] at this;show Value.int _ _=_;congr 1;omega,(HH.out.drewN 1).later hb⟩
  ·have d0:((m.toNat:Int)==39)=false:=by
    rw [Bi];intro e;exact hm (Ay.1 (by show _=39;omega))
   go_wp2_with fail
   go_meet
   case rel=>exact⟨by have:=HN.out.1;rw [Bc hm] at this;rw [this];rfl,HH.out⟩
 case rest =>
  obtain⟨rfl,hR⟩:=hcut;have hcs:(((n:Int)==0)=true)∨(((n:Int)==0)=false/\((l[k].toNat:Int)==10)=true)∨(((n:Int)==0)=false/\((l[k].toNat:Int)==10)=false):=by
   cases ((n:Int)==0) <;> cases ((l[k].toNat:Int)==10) <;> simp
  clear c0 c1 c2 c3 c4 f1 f2 f3 f4 HH HN hT;obtain⟨ov,hblk,hown⟩:=hR.blk;obtain⟨c0,c1,c2,c3,c4,f1,f2,f3,f4⟩:=CA hblk;simp only [] at c0 c1 c2 c3 c4 hblk hown;have hwr:IntKind.i64.wrap ((k:Int)+(n:Int))=(k:Int)+(n:Int):=IntWalk.i64_in _ Cs;have hw0:0<=(k:Int)+(n:Int):=Cs
  have hw1:(k:Int)+(n:Int)<=(l.length:Int):=Cs
  have hw2:(k:Int)<=(k:Int)+(n:Int):=Cs
  have hw3:((k:Int)+(n:Int)).toNat - k=n:=Cs
  have hsz:(ByteArray.mk ((l.drop k).take n).toArray).size=n:=Gh
  obtain⟨iU,hiU,hz0,hz1,hz2⟩:=info_parts Tryz.infoU8;have HBO:=hid HBB.out;clear HBB;go_upto_region 3 with fail
  go_cut [] from 20 (fun wx=>Rq c w0 l m ⟨k,out,B⟩ wx)
  case first =>
   rcases hcs with d1|⟨d1,d2⟩|⟨d1,d2⟩
   ·have hBv:B=true:=by rw [HBO.out,d1];rfl
    go_region;go_wp2_with fail
    go_meet
    case rel=>rw [hBv];exact (Rq.bad_ hR true).drewN 1
   ·have hBv:B=true:=by rw [HBO.out,d1,d2];rfl
    go_region;go_wp2_with fail
    go_meet
    case rel=>rw [hBv];exact (Rq.bad_ hR true).drewN 1
   ·have hBv:B=false:=by rw [HBO.out,d1,d2];rfl
    go_region;go_wp2_with fail
    go_meet
    case rel=>rw [hBv];exact (Rq.bad_ hR false).drewN 1
  case rest =>
   clear c0 c1 c2 c3 c4 f1 f2 f3 f4 hcs hblk hown hR;obtain⟨ov,hblk,hown⟩:=hcut.blk;obtain⟨c0,c1,c2,c3,c4,f1,f2,f3,f4⟩:=CA hblk;simp only [] at c0 c1 c2 c3 c4 hblk hown;have hclt:=lt_of_block hblk;go_wp2_with fail;refine Ce (S:=fun w'=>w'.cell? (y8 c 0)=some (.string ⟨l.toArray⟩)/\w'.cell? (y8 c 1)=some (i8 (k:Int))) Cw ?_ (fun hHeld=>?_)
   ·exact Cj
   refine tn_ 0 ?_;refine tn_ 1 ?_;refine tn_ 2 ?_;refine tn_ 3 ?_;refine tn_ 5 ?_;refine tn_ 6 ?_;refine tn_ 7 ?_;refine tn_ 8 ?_;refine tn_ 9 ?_;refine tn_ 10 ?_;refine tn_ 11 ?_;refine tn_ 12 ?_;refine tn_ 13 ?_;refine tn_ 14 ?_;refine tn_ 15 ?_;refine tn_ 16 ?_;refine tn_ 17 ?_;refine tn_ 18 ?_;refine tn_ 19 ?_;refine Cb (rs:=[4]) Cw Cu (Cc (o:=?_) ?_ (fun K hK=>?_) Cd)
   rotate_left
   ·exact Cf
   go_simp;go_wp2_with fail;refine hK.out _ _ ?_ (fun hHeld4=>?_)
   ·exact Cj
   clear hK K
   try simp only [Act.put,Q',Z',Aa]
   refine Cb (rs:=[20]) Cw Cu (Cc (o:=?_) ?_ (fun K hK=>?_) Cd)
   rotate_left
   ·exact Cf
   refine sH _ Db _ _ _ _ Db (c+1) 5 iU Tryz.underBs Tryz.underStr hiU hz0 hz1 hz2 ov out.length (Lib.byteCells out) Db hown.drew ⟨((l.drop k).take n).toArray⟩ Db Kn (by rw [hsz];omega) hclt ?_;intro v2 w2 hown2 hgrow2;obtain⟨va2,vn2,vc2,rfl⟩:=ND hown2;have hb2:=uE (by exact hblk) hown.drew hgrow2;obtain⟨k0,k1,_,k3,_,_,_,z3,_⟩:=CA hb2;have hb3:(w2.setCell (y8 c 3) (.slice va2 vn2 vc2)).heap[c]?=some (.cells #[.string ⟨l.toArray⟩,i8 (k:Int),.int .u8 (m.toNat:Int),.slice va2 vn2 vc2,.bool B] 191 (0,0)):=by rw [heap_setCell_same w2 c 3 _ _ _ hb2];rfl
   obtain⟨s0,s1,_,_,_,t1,_⟩:=CA hb3;refine hK.out _ _ ?_ (fun hHeld20=>?_)
   ·exact Cj
   clear hK K
   try simp only [Act.put,Q',Z',Aa]
   refine Cb (rs:=[21]) Cw Cu (Cc (o:=?_) ?_ (fun K hK=>?_) Cd)
   rotate_left
   ·exact Cf
   go_simp;go_wp2_with fail;refine hK.out _ _ ?_ (fun hHeld21=>?_)
   ·exact Cj
   clear hK K
   try simp only [Act.put,Q',Z',Aa]
   refine Cb (rs:=[22]) Cw Cu (Cc (o:=?_) ?_ (fun K hK=>?_) Cd)
   rotate_left
   ·exact Cf
   go_simp;go_wp2_with fail;refine hK.out _ _ ?_ (fun hHeld22=>?_)
   ·exact Cj
   clear hK K
   try simp only [Act.put,Q',Z',Aa]
   refine Cb (rs:=[23]) Cw Cu (Cc (o:=?_) ?_ (fun K hK=>?_) Cd)
   rotate_left
   ·exact Cf
   go_simp;go_wp2_with fail;refine hK.out _ _ ?_ (fun hHeld23=>?_)
   ·exact Cj
   clear hK K
   try simp only [Act.put,Q',Z',Aa]
   refine wpAnyH_done Cw ?_ _;go_wp2_with fail;go_end0;exact⟨rfl,Rq.at_ (Rq.push (q:=⟨k,out,B⟩) (bs:=(l.drop k).take n) hcut.bel.drew hblk hown.drew hgrow2 hown2 (by rw [hsz];simp;omega) rfl) (k+n)⟩
end
section
open Go.RowKit
variable {w:World}
theorem EJ {l:List UInt8} (h:l≠[]):(dec l).2<=l.length:=by
  exact zb0
theorem CI (l:List UInt8):∀ (f p:Nat),DE l f p=-1∨∃ j:Nat,DE l f p=(j:Int)/\j < l.length
  | 0,_=>.inl rfl
  | f+1,p=>by
    rw [DE];split
    · split
      · exact .inr ⟨p,rfl,Dt⟩
      · exact CI l f _
    · exact .inl rfl
theorem SL (l:List UInt8):ZJ l=-1∨∃ j:Nat,ZJ l=(j:Int)/\j < l.length:=CI l _ _
def eB (l:List UInt8):Nat->Nat->Int
  | 0,_=>-1
  | f+1,p=>if p < l.length then (if (dec (l.drop p)).1=0∨(dec (l.drop p)).1=65279/\0 < p then (p:Int) else eB l f (p+(dec (l.drop p)).2)) else -1
theorem xI {l:List UInt8}{f p:Nat} (h:¬ p < l.length):eB l f p=-1:=by
  cases f with
  | zero=>rfl
  | succ f=>simp [eB,h]
def BK (l:List UInt8):Nat:=if ZJ l < 0 then l.length else (ZJ l).toNat
def tG (l:List UInt8):Int:=if 0<=eB (l.take (BK l)) (BK l) 0 then eB (l.take (BK l)) (BK l) 0 else if BK l < l.length then (BK l:Int) else -1
theorem MR (l:List UInt8) (hs:l.length<=65536) (hT:NC w):Calls Tryz.prog 145 #[.string ⟨l.toArray⟩] w (fun e w'=>e=.returned (i8 (tG l))/\Below w.heap.size w w'):=by
  have hC:=UP (w:=w) l Cs hT;have hbr:=SL l;have hR:∃ n,BK l=n/\n<=l.length/\((ZJ l=-1/\n=l.length)∨(ZJ l=(n:Int)/\n < l.length)):=by
    refine⟨_,rfl,?_⟩;unfold BK;rcases hbr with h|⟨j,h,hj⟩
    · rw [h];simp
    · rw [h,Bc Cs,Ai];exact⟨Cs,.inr ⟨rfl,hj⟩⟩
  obtain⟨n,hn,hnl,hcs⟩:=hR;have hcl:tG l=if 0<=eB (l.take n) n 0 then eB (l.take n) n 0 else if n < l.length then (n:Int) else -1:=by unfold tG;rw [hn]
  rw [hcl];clear hcl hn hbr;obtain⟨b,hb⟩:∃ b,b=ZJ l:=⟨_,rfl⟩;rw [<- hb] at hC hcs;clear hb;rcases hcs with ⟨rfl,hnn⟩|⟨rfl,hlt⟩
  · rw [show l.take n=l by rw [hnn,List.take_length]]
    obtain⟨R,hRR⟩:∃ R,R=eB l n 0:=⟨_,rfl⟩;rw [<- hRR];have HRR:=hid hRR;clear hRR;obtain⟨Z,hZ⟩:∃ Z,Z=if 0<=R then R else if n < l.length then (n:Int) else -1:=⟨_,rfl⟩
    rw [<- hZ];have HZ:=hid hZ;clear hZ;have hsz:(ByteArray.mk l.toArray).size=l.length:=Fe
    go_in
    go_wp2_with (go_at_call 182;refine hC.mono ?_;rintro e w1 ⟨rfl,hb1⟩);have hlo:w.heap.size<=w1.heap.size:=hb1.size
    go_loopw [4] (fun _ wr=>∃ (pos fuel:Nat),wr.heap[w1.heap.size]?=some (.stringIter ⟨l.toArray⟩ pos)/\(w.heap.size<=w1.heap.size/\Below w.heap.size w wr)/\eB l fuel pos=R/\l.length<=pos+fuel) (fun _ wr=>l.length - wr.iterPos w1.heap.size)
    case atStart=>exact⟨0,n,World.iter_heap w1 _ 0,⟨hlo,hb1.alloc hlo _⟩,HRR.out.symm,Cs⟩
    case round =>
      obtain⟨pos,fuel,hit,⟨hlo,hbw⟩,HB,hfu⟩:=hrel;have hpos0:=tC hit;by_cases hp:pos < l.length
      · have hnx:∀ ty,(Instr.next (p8 w1.heap.size) true ty).run Tryz.prog wr=_:=fun ty=>Lib.run_next_any_at wr w1.heap.size _ pos ty hit Ez
        rw [RL hp] at hnx;have hwd:=eG (l:=l.drop pos) Dx;obtain⟨fuel,rfl⟩:∃ f',fuel=f'+1:=⟨fuel - 1,Cs⟩;have hit2:=Lib.iterAt_heap wr w1.heap.size _ pos (pos+(dec (l.drop pos)).2) hit;have hbw2:=Lib.below_iterAt hbw (k:=w1.heap.size) hlo ⟨l.toArray⟩ (pos+(dec (l.drop pos)).2);rw [eB,Bb hp] at HB;obtain⟨d,hd⟩:∃ d,d=dec (l.drop pos):=⟨_,rfl⟩;rw [<- hd] at hnx hwd hit2 hbw2 HB;obtain⟨W1,hW1⟩:∃ W1,W1=wr.iterAt w1.heap.size ⟨l.toArray⟩ (pos+d.2):=⟨_,rfl⟩;rw [<- hW1] at hnx hit2 hbw2;have hR0:=HRR.out;have hcs:((d.1:Int)==0)=true/\R=pos∨((d.1:Int)==0)=false/\((d.1:Int)==65279)=true/\decide (0 < pos)=true/\R=pos∨((d.1:Int)==0)=false/\((d.1:Int)==65279)=true/\decide (0 < pos)=false/\eB l fuel (pos+d.2)=R∨((d.1:Int)==0)=false/\((d.1:Int)==65279)=false/\eB l fuel (pos+d.2)=R:=by
          exact zbb
        have HI:=hid (Az hit2 (Az hbw2 (Az hpos0 (Az hp (Az hwd hfu)))));clear hit2 hbw2 hit hbw hpos0 hfu hwd hp hd hW1 hT hR0 HB;rcases hcs with ⟨d1,h1⟩|⟨d1,d2,d3,h1⟩|⟨d1,d2,d3,h1⟩|⟨d1,d2,h1⟩
        all_goals have HH:=hid h1
        all_goals clear h1
        all_goals go_wp2_with fail
        all_goals obtain⟨hit2,hbw2,hpos0,hp,hwd,hfu⟩:=HI.out
        all_goals first
          | (go_ret
             have h1:=HH.out;exact⟨Jz,hbw2⟩)
          | exact⟨⟨pos+d.2,fuel,hit2,⟨hlo,hbw2⟩,HH.out,Cs⟩,Jd⟩
      · have hnx:∀ ty,(Instr.next (p8 w1.heap.size) true ty).run Tryz.prog wr=_:=fun ty=>Lib.run_next_end_at wr w1.heap.size _ pos ty hit Ez
        rw [xI hp] at HB;have HB:=hid HB;have HI:=hid hbw;clear hit hbw;go_wp2_with fail;go_ret;have h1:=HB.out;exact⟨by rw [HZ.out,Bc Cs,Bc Cs];rfl,HI.out⟩
  · skip
    obtain⟨T,hTT⟩:∃ T,T=l.take n:=⟨_,rfl⟩;rw [<- hTT];have hTl:T.length=n:=by rw [hTT,List.length_take];omega
    obtain⟨R,hRR⟩:∃ R,R=eB T n 0:=⟨_,rfl⟩;rw [<- hRR];have HRR:=hid hRR;clear hRR;obtain⟨Z,hZ⟩:∃ Z,Z=if 0<=R then R else if n < l.length then (n:Int) else -1:=⟨_,rfl⟩
    rw [<- hZ];have HZ:=hid hZ;clear hZ;have hsz:(ByteArray.mk T.toArray).size=T.length:=Fe
    go_in
    go_wp2_with (go_at_call 182;refine hC.mono ?_;rintro e w1 ⟨rfl,hb1⟩);have hlo:w.heap.size<=w1.heap.size:=hb1.size
    go_loopw [4] (fun _ wr=>∃ (pos fuel:Nat),wr.heap[w1.heap.size]?=some (.stringIter ⟨T.toArray⟩ pos)/\(w.heap.size<=w1.heap.size/\Below w.heap.size w wr)/\eB T fuel pos=R/\T.length<=pos+fuel) (fun _ wr=>T.length - wr.iterPos w1.heap.size)
    case atStart=>exact⟨0,n,by rw [hTT];exact World.iter_heap w1 _ 0,⟨hlo,hb1.alloc hlo _⟩,HRR.out.symm,Cs⟩
    case round =>
      obtain⟨pos,fuel,hit,⟨hlo,hbw⟩,HB,hfu⟩:=hrel;have hpos0:=tC hit;by_cases hp:pos < T.length
      · have hnx:∀ ty,(Instr.next (p8 w1.heap.size) true ty).run Tryz.prog wr=_:=fun ty=>Lib.run_next_any_at wr w1.heap.size _ pos ty hit Ez
        rw [RL hp] at hnx;have hwd:=eG (l:=T.drop pos) Dx;obtain⟨fuel,rfl⟩:∃ f',fuel=f'+1:=⟨fuel - 1,Cs⟩;have hit2:=Lib.iterAt_heap wr w1.heap.size _ pos (pos+(dec (T.drop pos)).2) hit;have hbw2:=Lib.below_iterAt hbw (k:=w1.heap.size) hlo ⟨T.toArray⟩ (pos+(dec (T.drop pos)).2);rw [eB,Bb hp] at HB;obtain⟨d,hd⟩:∃ d,d=dec (T.drop pos):=⟨_,rfl⟩;rw [<- hd] at hnx hwd hit2 hbw2 HB;obtain⟨W1,hW1⟩:∃ W1,W1=wr.iterAt w1.heap.size ⟨T.toArray⟩ (pos+d.2):=⟨_,rfl⟩;rw [<- hW1] at hnx hit2 hbw2;have hR0:=HRR.out;have hcs:((d.1:Int)==0)=true/\R=pos∨((d.1:Int)==0)=false/\((d.1:Int)==65279)=true/\decide (0 < pos)=true/\R=pos∨((d.1:Int)==0)=false/\((d.1:Int)==65279)=true/\decide (0 < pos)=false/\eB T fuel (pos+d.2)=R∨((d.1:Int)==0)=false/\((d.1:Int)==65279)=false/\eB T fuel (pos+d.2)=R:=by
          exact zbb
        have HI:=hid (Az hit2 (Az hbw2 (Az hpos0 (Az hp (Az hwd hfu)))));clear hit2 hbw2 hit hbw hpos0 hfu hwd hp hd hW1 hT hR0 HB;rcases hcs with ⟨d1,h1⟩|⟨d1,d2,d3,h1⟩|⟨d1,d2,d3,h1⟩|⟨d1,d2,h1⟩
        all_goals have HH:=hid h1
        all_goals clear h1
        all_goals go_wp2_with fail
        all_goals obtain⟨hit2,hbw2,hpos0,hp,hwd,hfu⟩:=HI.out
        all_goals first
          | (go_ret
             have h1:=HH.out;exact⟨Jz,hbw2⟩)
          | exact⟨⟨pos+d.2,fuel,hit2,⟨hlo,hbw2⟩,HH.out,Cs⟩,Jd⟩
      · have hnx:∀ ty,(Instr.next (p8 w1.heap.size) true ty).run Tryz.prog wr=_:=fun ty=>Lib.run_next_end_at wr w1.heap.size _ pos ty hit Ez
        rw [xI hp] at HB;have HB:=hid HB;have HI:=hid hbw;clear hit hbw;go_wp2_with fail;go_ret;have h1:=HB.out;exact⟨by rw [HZ.out,Bc Cs,Bb Cs];rfl,HI.out⟩
def VA (r:List UInt8):Nat->Nat->Nat
  | 0,_=>r.length
  | f+1,p=>if p < r.length then (if oB (dec (r.drop p)).1||digitB (dec (r.drop p)).1 then VA r f (p+(dec (r.drop p)).2) else p) else r.length
def tF (r:List UInt8):Nat:=VA r r.length 0
theorem mO {r:List UInt8}{f p:Nat} (h:¬ p < r.length):VA r f p=r.length:=by
  cases f with
  | zero=>rfl
  | succ f=>simp [VA,h]
theorem XH (r:List UInt8):∀ f p,p<=r.length->VA r f p<=r.length
  | 0,_,_=>C' _
  | f+1,p,h=>by
    rw [VA];split
    · split
      · have hne:r.drop p≠[]:=by intro e;have:=congrArg List.length e;simp only [Ab,Am] at this;omega
        have:=EJ hne;simp only [Ab] at this;exact XH r f _ Cs
      · exact h
    · exact C' _
theorem uL (r:List UInt8):tF r<=r.length:=XH r _ 0 (Nat.zero_le _)
def uI (l:List UInt8) (k:Nat):Int:=if iJ ((l.drop k).take (tF (l.drop k))) then 2 else 1
theorem YK (l:List UInt8) (k:Nat) (hs:l.length<=65536) (hk:k<=l.length):Calls Tryz.prog 223 #[.string ⟨l.toArray⟩,i8 k] w (fun e w'=>e=.returned (.tuple #[.int .u8 (uI l k),i8 ((k+tF (l.drop k):Nat):Int)])/\Below w.heap.size w w'):=by
  have hRl:=uL (l.drop k);rw [Ab] at hRl;have hK:uI l k=if iJ ((l.drop k).take (tF (l.drop k))) then 2 else 1:=rfl
  rw [hK];clear hK;obtain⟨T,hTT⟩:∃ T,T=l.drop k:=⟨_,rfl⟩;rw [<- hTT] at hRl ⊢;have hTl:T.length=l.length - k:=by rw [hTT,Ab]
  have hRR:tF T=VA T T.length 0:=rfl;obtain⟨R,hR⟩:∃ R,R=tF T:=⟨_,rfl⟩;rw [<- hR] at hRl hRR ⊢;obtain⟨B,hB⟩:∃ B,B=iJ (T.take R):=⟨_,rfl⟩;rw [<- hB];have hWW:∀ w,Calls Tryz.prog 261 #[.string ⟨(T.take R).toArray⟩] w (fun e w'=>e=.returned (.bool B)/\w'=w):=fun w=>by rw [hB];exact PM _
  have HRR:=hid hRR;have HT:=hid hTT;have hsz:(ByteArray.mk T.toArray).size=T.length:=Fe
  have hext:∀ n:Nat,(l.drop k).take n=T.take n:=fun n=>by rw [hTT]
  clear hB hR hRR
  go_in
  go_wp2_with fail
  go_loopw [6] (fun v6 wr=>v6=i8 (l.length:Int)/\∃ (pos fuel:Nat),wr.heap[w.heap.size]?=some (.stringIter ⟨T.toArray⟩ pos)/\Below w.heap.size w wr/\VA T fuel pos=R/\T.length<=pos+fuel) (fun _ wr=>T.length - wr.iterPos w.heap.size)
  case atStart=>exact⟨rfl,0,T.length,by rw [Au Cs];exact World.iter_heap w _ 0,(N' _ _).alloc (C' _) _,HRR.out.symm,Cs⟩
  case round =>
    obtain⟨rfl,pos,fuel,hit,hbw,HW,hfu⟩:=hrel;have hpos0:=tC hit;by_cases hp:pos < T.length
    · have hnx:∀ ty,(Instr.next (p8 w.heap.size) true ty).run Tryz.prog wr=_:=fun ty=>Lib.run_next_any_at wr w.heap.size _ pos ty hit Ez
      rw [RL hp] at hnx;have hwd:=eG (l:=T.drop pos) Dx;obtain⟨fuel,rfl⟩:∃ f',fuel=f'+1:=⟨fuel - 1,Cs⟩;have hit2:=Lib.iterAt_heap wr w.heap.size _ pos (pos+(dec (T.drop pos)).2) hit;have hbw2:=Lib.below_iterAt hbw (k:=w.heap.size) (C' _) ⟨T.toArray⟩ (pos+(dec (T.drop pos)).2);rw [VA,Bb hp] at HW;obtain⟨d,hd⟩:∃ d,d=dec (T.drop pos):=⟨_,rfl⟩;rw [<- hd] at hnx hwd hit2 hbw2 HW;obtain⟨W1,hW1⟩:∃ W1,W1=wr.iterAt w.heap.size ⟨T.toArray⟩ (pos+d.2):=⟨_,rfl⟩;rw [<- hW1] at hnx hit2 hbw2;have hlt:=lt_of_block hit2;have hcs:oB d.1=true/\VA T fuel (pos+d.2)=R∨oB d.1=false/\digitB d.1=true/\VA T fuel (pos+d.2)=R∨oB d.1=false/\digitB d.1=false/\R=pos:=by
        cases h1:oB d.1 <;> cases h2:digitB d.1 <;> simp_all
      have HI:=hid (Az hit2 (Az hbw2 (Az hpos0 (Az hp (Az hwd (Az hfu hlt))))));have hpl:(pos:Int) < T.length:=Cs
      clear hit2 hbw2 hit hbw hpos0 hfu hwd hp hd hW1 HW hlt hTT;rcases hcs with ⟨d1,h1⟩|⟨d1,d2,h1⟩|⟨d1,d2,h1⟩
      · have HH:=hid h1
        clear h1;go_wp2_with (go_at_call 222;refine (XA _).mono ?_;rintro e w2 ⟨rfl,hb2⟩);obtain⟨hit2,hbw2,hpos0,hp,hwd,hfu,hlt⟩:=HI.out;have hit3:=(hb2.block _ hlt).trans hit2;exact⟨⟨rfl,pos+d.2,fuel,hit3,dA hbw2 hb2,HH.out,Cs⟩,Je⟩
      · have HH:=hid h1
        clear h1;go_wp2_with (first|(go_at_call 222;refine (XA _).mono ?_;rintro e w2 ⟨rfl,hb2⟩)|(go_at_call 260;refine (aH _).mono ?_;rintro e w3 ⟨rfl,rfl⟩));obtain⟨hit2,hbw2,hpos0,hp,hwd,hfu,hlt⟩:=HI.out;have hit3:=(hb2.block _ hlt).trans hit2;exact⟨⟨rfl,pos+d.2,fuel,hit3,dA hbw2 hb2,HH.out,Cs⟩,Je⟩
      · subst h1
        have hwr:IntKind.i64.wrap ((k:Int)+(R:Int))=(k:Int)+(R:Int):=IntWalk.i64_in _ Cs;have hw0:0<=(k:Int)+(R:Int):=Cs
        have hw1:(k:Int)+(R:Int)<=(l.length:Int):=Cs
        have hw2:(k:Int)<=(k:Int)+(R:Int):=Cs
        have hw3:((k:Int)+(R:Int)).toNat - k=R:=Cs
        cases B with
        | true =>
          exact zbp
        | false =>
          exact zbp
    · have hnx:∀ ty,(Instr.next (p8 w.heap.size) true ty).run Tryz.prog wr=_:=fun ty=>Lib.run_next_end_at wr w.heap.size _ pos ty hit Ez
      rw [mO hp] at HW;have hRk:k+R=l.length:=Cs
      have hw3:l.length - k=R:=Cs
      have hkl:(k:Int)<=(l.length:Int):=Cs
      have HI:=hid hbw;have HE:=hid (show (k:Int)+(R:Int)=(l.length:Int) by omega);clear hit hbw HW hRl hRk hpos0 hfu hp;cases B with
      | true =>
        exact zcy
      | false =>
        exact zcy
def wU:List (List UInt8):=[[60,60,61],[62,62,61],[38,94,61],[46,46,46],[60,60],[62,62],[38,94],[43,61],[45,61],[42,61],[47,61],[37,61],[38,61],[124,61],[94,61],[38,38],[124,124],[60,45],[43,43],[45,45],[61,61],[33,61],[60,61],[62,61],[58,61],[43],[45],[42],[47],[37],[38],[124],[94],[60],[62],[61],[33],[126],[40],[41],[91],[93],[123],[125],[44],[46],[58]]
def IE (l:List UInt8):Nat->Nat
  | 0=>0
  | n+1=>if wU.contains (l.take (n+1)) then n+1 else IE l n
def CG (l:List UInt8):Nat:=IE l (min 3 l.length)
theorem LH (l:List UInt8):∀ n,IE l n<=n
  | 0=>C' _
  | n+1=>by rw [IE];split;exact C' _;exact Nat.le_succ_of_le (LH l n)
theorem cU (l:List UInt8) (hs:l.length<=65536):Calls Tryz.prog 226 #[.string ⟨l.toArray⟩] w (fun e w'=>e=.returned (i8 ((CG l:Nat):Int))/\w'=w):=by
  have hR:CG l=IE l (min 3 l.length):=rfl;obtain⟨R,hRR⟩:∃ R,R=CG l:=⟨_,rfl⟩;rw [<- hRR] at hR ⊢;clear hRR;have HR:=hid hR;have hm3:min (3:Int) (l.length:Int)=((min 3 l.length:Nat):Int):=Cs
  have hml:min 3 l.length<=l.length:=Cs
  have hm0:min 3 l.length<=3:=Cs
  generalize min 3 l.length=M at *;clear hR
  go_in
  go_wp2_with fail;go_step3;go_wp2_with fail;go_step3;go_wp2_with fail
  go_loopg [3] M (fun j v3 wr=>v3=i8 (j:Int)/\j<=M/\IE l j=R/\wr=w)
  case atStart=>exact⟨by first|rfl|rw [hm3],C' _,HR.out.symm,rfl⟩
  case round =>
    obtain⟨rfl,hj,hR,rfl⟩:=hrel;cases gk with
    | zero =>
      subst hR;go_wp2_with fail;rw [Exit.noGoto_ret];go_ret;exact zbg
    | succ i =>
      have HJ:=hid hR;clear hR;have hi1:(i:Int)+1<=l.length:=Cs
      have hi2:0<=(i:Int)+1:=Cs
      have hi3:((i:Int)+1).toNat=i+1:=Cs
      go_wp2_with fail
      all_goals first
        | (rename_i h1 h2
           exact absurd (h1.symm.trans h2) Ct)
        | (rw [Exit.noGoto_ret]
           go_ret;have hJ:=HJ.out;rw [IE,Bb (by simp only [wU,List.contains_cons,List.contains_nil, *,Bool.false_or,Bool.true_or,Bool.or_true])] at hJ;rw [<- hJ];exact⟨rfl,rfl⟩)
        | (have hJ:=HJ.out
           rw [IE,Bc (by simp only [wU,List.contains_cons,List.contains_nil, *,Bool.false_or,Bool.true_or,Bool.or_true];decide)] at hJ;go_roundg i
           case measure=>omega
           case rel=>exact⟨rfl,Cs,hJ,rfl⟩)
end
section
open Go.RowKit
variable {w:World}
def jC (l:List UInt8) (m:UInt8):Nat->Nat->Qs->Bool × Qs
 | 0,_,q=>(false,q)
 | f+1,it,q =>
  if h:q.k < l.length then
   if q.bad=true then (false,q)
   else if l[q.k]=m then (decide (m=34)||decide (it=1),⟨q.k+1,q.out,q.bad⟩)
   else if m=39/\it=1 then (false,q)
   else if l[q.k]=92 then jC l m f (it+1) (zC l m ⟨q.k+1,q.out,q.bad⟩)
   else jC l m f (it+1) (PD l m q)
  else (false,q)
theorem aN {l:List UInt8}{m:UInt8}{f it:Nat}{q:Qs} (h:¬ q.k < l.length∨q.bad=true):jC l m f it q=(false,q):=by
 cases f with
 | zero=>rfl
 | succ f =>
  rw [jC];split
  ·rename_i h1;rw [Bb (h.resolve_left (fun h2=>h2 h1))]
  ·rfl
theorem qG (l:List UInt8) (m:UInt8) (q:Qs) (hk:q.k<=l.length):q.k<=(zC l m q).k/\(zC l m q).k<=l.length/\(zC l m q).out.length<=q.out.length+4:=by
 have hN:=fun (b:Int) (hb:b=8∨b=16) f (p:Qs) (hp:p.k<=l.length)=>rE l b hb f p 0 0 Ct (by rw [Int.pow_zero];decide) hp
 have hC:=fun n ch p=>WH m n ch p
 unfold zC;split
 ·rename_i h;have h16:=fun f=>hN 16 (.inr rfl) f ⟨q.k+1,q.out,q.bad⟩ Kg
  have h8:=hN 8 (.inl rfl) 3 q hk;simp only [] at h16;split
  ·simp;omega
  ·split
   ·simp;omega
   ·split
    ·obtain⟨_,_,a,b,e⟩:=h16 2;obtain⟨x,y,_⟩:=hC (TA l 16 2 ⟨q.k+1,q.out,q.bad⟩ 0).1 false (TA l 16 2 ⟨q.k+1,q.out,q.bad⟩ 0).2;rw [e] at y;omega
    ·split
     ·obtain⟨_,_,a,b,e⟩:=h16 8;obtain⟨x,y,_⟩:=hC (TA l 16 8 ⟨q.k+1,q.out,q.bad⟩ 0).1 true (TA l 16 8 ⟨q.k+1,q.out,q.bad⟩ 0).2;rw [e] at y;omega
     ·split
      ·obtain⟨_,_,a,b,e⟩:=h16 4;obtain⟨x,y,_⟩:=hC (TA l 16 4 ⟨q.k+1,q.out,q.bad⟩ 0).1 true (TA l 16 4 ⟨q.k+1,q.out,q.bad⟩ 0).2;rw [e] at y;omega
      ·obtain⟨_,_,a,b,e⟩:=h8;obtain⟨x,y,_⟩:=hC ((TA l 8 3 q 0).1 % 256) false ⟨(TA l 8 3 q 0).2.k,(TA l 8 3 q 0).2.out,(TA l 8 3 q 0).2.bad||decide (255 < (TA l 8 3 q 0).1)⟩;have x:_=(TA l 8 3 q 0).2.k:=x;have y:_<=(TA l 8 3 q 0).2.out.length+4:=y;have e2:(TA l 8 3 q 0).2.out.length=q.out.length:=by rw [e]
       omega
 ·simp;omega
theorem SG (l:List UInt8) (m:UInt8) (q:Qs) (h:q.k < l.length):(PD l m q).k<=l.length/\(PD l m q).out.length=q.out.length+((PD l m q).k - q.k)/\q.k<=(PD l m q).k/\((PD l m q).bad=false->q.k < (PD l m q).k):=by
 have:=tN l m q.k h;unfold PD;simp only [V',List.length_take,Ab,Bool.or_eq_false_iff,decide_eq_false_iff_not];omega
theorem zF (x y:UInt8):decide (x=y)=((x.toNat:Int)==(y.toNat:Int)):=by
 rw [Bg];simp only [Bq,Bh];exact⟨fun h=>by rw [h],fun h=>Ay.1 Cs⟩
theorem xW (x y:Nat):decide (x=y)=((x:Int)==(y:Int)):=by
 rw [Bg];simp only [Bq,Bh];omega
theorem GR {c:Nat}{w0:World}{l:List UInt8}{m0 m:UInt8}{a:Nat} (H:Rq c w0 l m0 ⟨a,[],false⟩ w) (hl:l.length<=1048576) (ha:a < l.length) (hm:l[a]=m) (hT:∀ w',Below c w0 w'->NC w') :
  Calls Tryz.prog 281 #[p8 c] w (fun e w'=>e=.returned (.bool (jC l m l.length 0 ⟨a+1,[],false⟩).1)/\Rq c w0 l m (jC l m l.length 0 ⟨a+1,[],false⟩).2 w'):=by
 obtain⟨ov,hblk,hown⟩:=H.blk;obtain⟨c0,c1,c2,c3,c4,f1,f2,f3,f4⟩:=CA hblk;simp only [] at c0 c1 c2 c3 c4;have HT:=hid hT;clear hblk hown hT;have hma:l[a].toNat=m.toNat:=by rw [hm]
 obtain⟨R,hRR⟩:∃ R,R=jC l m l.length 0 ⟨a+1,[],false⟩:=⟨_,rfl⟩;rw [<- hRR];have HRR:=hid hRR;clear hRR
 go_in
 go_wp2_with fail;go_region;have hR1:Rq c w0 l m ⟨a,[],false⟩ (w.setCell (y8 c 2) (.int .u8 (m.toNat:Int))).drew:=(Rq.mark H m).drewN 1;have HR1:=hid hR1;obtain⟨ov1,hblk,hown⟩:=hR1.blk;clear c0 c1 c2 c3 c4 f1 f2 f3 f4;obtain⟨c0,c1,c2,c3,c4,f1,f2,f3,f4⟩:=CA hblk;simp only [] at c0 c1 c2 c3 c4;clear hblk hown hR1;generalize (w.setCell (y8 c 2) (.int .u8 (m.toNat:Int))).drew=w1 at *;go_wp2_with fail
 go_loopg [3] l.length (fun j v3 wr=>∃ (it:Nat) (q:Qs),v3=i8 (it:Int)/\it+j=l.length/\Rq c w0 l m q wr/\jC l m j it q=R/\(q.bad=false->l.length<=q.k+j)/\q.k<=l.length/\q.out.length<=4*q.k)
 case atStart=>exact⟨0,⟨a+1,[],false⟩,rfl,Cs,Rq.at_ HR1.out (a+1),HRR.out.symm,fun _=>by show _<=a+1+_;omega,by show a+1<=_;omega,Nat.zero_le _⟩
 case round =>
  obtain⟨it,⟨k,out,bad⟩,rfl,hj,HR,HQ,hf,hk,ho⟩:=hrel;simp only [] at hf hk ho;clear c0 c1 c2 c3 c4 f1 f2 f3 f4;obtain⟨ov2,hblk,hown⟩:=HR.blk;obtain⟨c0,c1,c2,c3,c4,f1,f2,f3,f4⟩:=CA hblk;simp only [] at c0 c1 c2 c3 c4;have HK:=hid (Az HR (Az HQ (Az hf hj)));clear hblk hown HR HQ hf hj;by_cases hkl:k < l.length
  ·have d1:decide ((k:Int) < (l.length:Int))=true:=by simpa using hkl
   cases bad with
   | true =>
    go_wp2_with fail;go_quiet (fail);go_wp2_with fail;go_ret;obtain⟨HR,HQ,_,_⟩:=HK.out;rw [aN (.inr rfl)] at HQ;rw [<- HQ];exact⟨rfl,HR.drewN _⟩
   | false =>
    have hstep:R=if decide (l[k]=m)=true then (decide (m=34)||decide (it=1),⟨k+1,out,false⟩) else if decide (m=39)=true/\decide (it=1)=true then (false,⟨k,out,false⟩) else if decide (l[k]=92)=true then jC l m (gk - 1) (it+1) (zC l m ⟨k+1,out,false⟩) else jC l m (gk - 1) (it+1) (PD l m ⟨k,out,false⟩):=by
     obtain⟨HR,HQ,hf,hj⟩:=HK.out;have hf:=hf rfl;obtain⟨j',rfl⟩:∃ j',gk=j'+1:=⟨gk - 1,Cs⟩;rw [<- HQ,jC,dif_pos hkl,Bc Cu];simp only [Bq,Nat.add_sub_cancel]
    rw [zF,zF,zF,zF,xW] at hstep;have hstep:R=if ((l[k].toNat:Int)==(m.toNat:Int))=true then (((m.toNat:Int)==34)||((it:Int)==1),⟨k+1,out,false⟩) else if ((m.toNat:Int)==39)=true/\((it:Int)==1)=true then (false,⟨k,out,false⟩) else if ((l[k].toNat:Int)==92)=true then jC l m (gk - 1) (it+1) (zC l m ⟨k+1,out,false⟩) else jC l m (gk - 1) (it+1) (PD l m ⟨k,out,false⟩):=hstep
    have hit:it<=1048576:=by have:=HK.out.2.2.2;omega
    have hw:IntKind.i64.wrap ((it:Int)+1)=(it:Int)+1:=IntWalk.i64_in _ Cs;have hgk:1<=gk:=by have:=HK.out.2.2.1 rfl;omega
    cases dm:((l[k].toNat:Int)==(m.toNat:Int)) with
    | true =>
     rw [dm,Bb rfl] at hstep;have HS:=hid hstep;clear hstep;have hcs:((m.toNat:Int)==34)=true∨((m.toNat:Int)==34)=false/\((it:Int)==1)=true∨((m.toNat:Int)==34)=false/\((it:Int)==1)=false:=by
      cases ((m.toNat:Int)==34) <;> cases ((it:Int)==1) <;> simp
     rcases hcs with d2|⟨d2,d3⟩|⟨d2,d3⟩
     all_goals
      go_wp2_with fail;go_quiet (fail);go_wp2_with fail;generalize nq=na at *;go_quiet (fail);go_wp2_with fail;go_ret;rw [HS.out];exact⟨by simp only [d2];first|rfl|(simp only [d3];rfl),Rq.at_ (HK.out.1.drewN _) (k+1)⟩
    | false =>
     rw [dm,Bc Cu] at hstep;have hcs:((m.toNat:Int)==39)=true/\((it:Int)==1)=true∨((m.toNat:Int)==39)=false∨((m.toNat:Int)==39)=true/\((it:Int)==1)=false:=by
      cases ((m.toNat:Int)==39) <;> cases ((it:Int)==1) <;> simp
     have hcs2:((l[k].toNat:Int)==92)=true∨((l[k].toNat:Int)==92)=false:=by cases ((l[k].toNat:Int)==92) <;> simp
     rcases hcs with ⟨d2,d3⟩|d2|⟨d2,d3⟩
     ·rw [Bb ⟨d2,d3⟩] at hstep;have HS:=hid hstep;clear hstep hcs2;go_wp2_with fail;go_quiet (fail);go_wp2_with fail;generalize nq=na at *;go_quiet (fail);go_wp2_with fail;go_ret;rw [HS.out];exact⟨rfl,HK.out.1.drewN _⟩
     all_goals
      rw [Bc (by simp [*])] at hstep;rcases hcs2 with d4|d4
      ·rw [Bb d4] at hstep;have HS:=hid hstep;have HF:=hid (qG l m ⟨k+1,out,false⟩ En);clear hstep;go_wp2_with fail;go_quiet (fail);go_wp2_with fail;generalize nq=na at *;go_quiet (fail);go_wp2_with (go_at_call 291;refine (PP (Rq.at_ (HK.out.1.drewN (na+nq)) (k+1)) hl (by show out.length<=4*(k+1);omega)).mono ?_;rintro e w2 ⟨rfl,hR2⟩);have hHF:=HF.out;have hf:=HK.out.2.2.1 Df;have hj:=HK.out.2.2.2
       (try simp only [] at hHF)
       go_roundg (gk - 1)
       case measure=>omega
       case rel=>exact⟨it+1,zC l m ⟨k+1,out,false⟩,Cu,Cs,hR2,HS.out.symm,fun _=>Cs,hHF.2.1,Cs⟩
      ·rw [Bc (by simp [d4])] at hstep;have HS:=hid hstep;have HF:=hid (SG l m ⟨k,out,false⟩ hkl);clear hstep;go_wp2_with fail;go_quiet (fail);go_wp2_with fail;generalize nq=na at *;go_quiet (fail);go_wp2_with (go_at_call 292;refine (IR (HK.out.1.drewN (na+nq)) hl hkl ho (HT.out _ (HK.out.1.drewN (na+nq)).bel)).mono ?_;rintro e w2 ⟨rfl,hR2⟩);have hHF:=HF.out;have hf:=HK.out.2.2.1 Df;have hj:=HK.out.2.2.2
       (try simp only [] at hHF)
       go_roundg (gk - 1)
       case measure=>omega
       case rel=>exact⟨it+1,PD l m ⟨k,out,false⟩,Cu,Cs,hR2,HS.out.symm,fun hb=>by have:=hHF.2.2.2 hb;omega,hHF.1,Cs⟩
  ·have d1:decide ((k:Int) < (l.length:Int))=false:=by simpa using hkl
   go_wp2_with fail;go_quiet (fail);go_wp2_with fail;go_ret;obtain⟨HR,HQ,_,_⟩:=HK.out;rw [aN (.inl hkl)] at HQ;rw [<- HQ];exact⟨rfl,HR.drewN _⟩
end
section
open Go.RowKit
variable {w:World}
theorem cM {base:Nat}{ov:Value}{out:List UInt8} (h:w.ownsRow base 5 1 ov out.length (Lib.byteCells out)) (j:Nat):(convert 32 9 ov).run Tryz.prog (w.drewN j)=.ok (.string ⟨out.toArray⟩) (w.drewN j):=by
 rcases h.2 with ⟨e1,e2⟩|⟨g,cap,cur,e1,e2,e3,e4,e5,e6,e7⟩
 ·have:out=[]:=List.length_eq_zero_iff.1 e2;rw [this,e1,run_convert_bytes_string (w.drewN j) _ _ 5 none 0 0 Tryz.underBs Cw Tryz.underStr];simp [Conv.bytesToString]
  rfl
 ·subst e1;refine run_convert_bytes_back (w.drewN j) 32 9 5 (y8 g 0) cap out Tryz.underBs Cw Tryz.underStr (fun i hi=>?_);have hx:(Lib.byteCells out)[i]?=some (.int .u8 (out[i].toNat:Int)):=by simp [Lib.byteCells,hi]
  rw [<- e7,List.getElem?_take] at hx;have hi2:i < out.length*1:=Cs
  rw [Bb hi2] at hx;have hadd:((y8 g 0):Addr).add i=(y8 g i):=by unfold Addr.add;split <;> simp_all
  rw [hadd];unfold World.cell?;have e3':(w.drewN j).heap[g]?=some (.cells cur 5 (0,0)):=e3;rw [e3'];simpa using hx
theorem RC {fn:Func}{t u v x:Tmp} (h:fn.results=#[.tmp t,.tmp u,.tmp v,.tmp x]) (tmps:Array Value) (P:Program) (w:World) :
  (results fn tmps).run P w=.ok (.tuple #[tmps.getD t undef,tmps.getD u undef,tmps.getD v undef,tmps.getD x undef]) w:=by
 simp [results,h]
theorem cW (l:List UInt8) (c:UInt8):Lib.indexByte l c < l.length∨Lib.indexByte l c < 0:=by
 by_cases h:Lib.indexByte l c < 0
 ·exact .inr h
 ·left
  obtain⟨o,ho⟩:=Ad (Int.not_lt.1 h);have:=(Lib.indexByte_some ho).1;have:=(Al.1 this).1;omega
structure Lit where
 k:Int
 tx:Int
 v:List UInt8
 e:Int
def YA (l:List UInt8) (a:Int):Lit :=
 if h:0<=a/\a < l.length then
  if Lib.indexByte ([39,34,96]:List UInt8) (l[a.toNat]' Cs) < 0 then ⟨0,0,[],15⟩
  else if l[a.toNat]' Cs=96 then
   if Lib.indexByte (l.drop (a.toNat+1)) 96 < 0 then ⟨0,0,[],4⟩
   else ⟨7,a+Lib.indexByte (l.drop (a.toNat+1)) 96+2,Lib.replaceAll ((l.drop (a.toNat+1)).take (Lib.indexByte (l.drop (a.toNat+1)) 96).toNat) [13] [],0⟩
  else if (jC l (l[a.toNat]' Cs) l.length 0 ⟨a.toNat+1,[],false⟩).1 then
   ⟨if l[a.toNat]' Cs=34 then 7 else 6,(jC l (l[a.toNat]' Cs) l.length 0 ⟨a.toNat+1,[],false⟩).2.k,(jC l (l[a.toNat]' Cs) l.length 0 ⟨a.toNat+1,[],false⟩).2.out,0⟩
  else ⟨0,0,[],4⟩
 else ⟨0,0,[],15⟩
def Lit.val (r:Lit):Value:=.tuple #[.int .u8 r.k,i8 r.tx,.string ⟨r.v.toArray⟩,i8 r.e]
theorem pM (l:List UInt8) (a:Int) (hl:l.length<=1048576) (hT:NC w) :
  Calls Tryz.prog 265 #[.string ⟨l.toArray⟩,i8 a] w (fun e w'=>e=.returned (YA l a).val/\Below w.heap.size w w'):=by
 have hb:=N' w.heap.size w;by_cases h0:a < 0
 ·have e:YA l a=⟨0,0,[],15⟩:=by unfold YA;rw [dif_neg Cs]
  rw [e]
  go_in
  exact zck
 obtain⟨k,rfl⟩:=Ad (Int.not_lt.1 h0);by_cases hk:k < l.length
 ·have e:YA l k=YA l k:=rfl
  conv at e=>rhs;unfold YA
  rw [dif_pos Cs] at e;simp only [Ai] at e;have hI:=fun w=>Tryz.strings_IndexByte ⟨([39,34,96]:List UInt8).toArray⟩ (l[k].toNat:Int) w
  have hc8:((l[k].toNat:Int).toNat.toUInt8)=l[k]:=Cu
  simp only [hc8] at hI;obtain⟨ix,hix⟩:∃ ix,ix=Lib.indexByte ([39,34,96]:List UInt8) l[k]:=⟨_,rfl⟩;rw [<- hix] at hI e;have HIX:=hid hix;clear hix;by_cases h1:ix < 0
  ·rw [Bb h1] at e;rw [e];clear e
   go_in
   go_wp2_with (go_at_call 221;refine (hI _).mono ?_;rintro e w1 ⟨rfl,rfl⟩)
   all_goals (try simp only [Exit.inBlock,Exit.then]);refine Ca (RC rfl _ _ _) rfl ?_
   all_goals exact⟨rfl,hb⟩
  rw [Bc h1] at e;by_cases h2:l[k]=96
  ·rw [Bb h2] at e;have hI2:=fun w=>Tryz.strings_IndexByte ⟨(l.drop (k+1)).toArray⟩ 96 w
   have hc9:((96:Int).toNat.toUInt8)=96:=Ct
   simp only [hc9] at hI2;obtain⟨jx,hjx⟩:∃ jx,jx=Lib.indexByte (l.drop (k+1)) 96:=⟨_,rfl⟩;rw [<- hjx] at hI2 e;have hjb:=cW (l.drop (k+1)) 96;rw [<- hjx,Ab] at hjb;have d1:l[k].toNat=96:=by rw [h2];rfl
   have hI0:=hI;replace hI:∀ w,Calls Tryz.prog 221 #[.string ⟨([39,34,96]:List UInt8).toArray⟩,.int .u8 96] w fun e w'=>e=.returned (i8 ix)/\w'=w:=by
    intro w;have:=hI0 w;rw [d1] at this;exact this
   clear hI0 hjx h2;by_cases h3:jx < 0
   ·rw [Bb h3] at e;rw [e];clear e
    go_in
    go_wp2_with (first|(go_at_call 221;refine (hI _).mono ?_;rintro e w1 ⟨rfl,rfl⟩)|(go_at_call 221;refine (hI2 _).mono ?_;rintro e w1 ⟨rfl,rfl⟩))
    all_goals (try simp only [Exit.inBlock,Exit.then]);refine Ca (RC rfl _ _ _) rfl ?_
    all_goals exact⟨rfl,hb⟩
   ·rw [Bc h3] at e;obtain⟨n,rfl⟩:=Ad (Int.not_lt.1 h3);obtain⟨mx,hmx⟩:=hT.2;have hRA:=fun w (hm:w.cell? ⟨0,0,none⟩=some (i8 mx))=>Tryz.strings_ReplaceAll ⟨((l.drop (k+1)).take n).toArray⟩ ⟨#[13]⟩ ⟨#[]⟩ mx w Gh hm Ct Gh
    rw [e];clear e
    go_in
    go_wp2_with (first|(go_at_call 221;refine (hI _).mono ?_;rintro e w1 ⟨rfl,rfl⟩)|(go_at_call 221;refine (hI2 _).mono ?_;rintro e w1 ⟨rfl,rfl⟩)|(go_at_call 280;refine (hRA _ hmx).mono ?_;rintro e w1 ⟨rfl,hb1⟩))
    all_goals (try simp only [Exit.inBlock,Exit.then]);refine Ca (RC rfl _ _ _) rfl ?_
    all_goals exact⟨rfl,hb1⟩
  ·rw [Bc h2] at e;have d1:((l[k].toNat:Int)==96)=false:=by
    have:=zF l[k] 96;simp only [h2,decide_false] at this;exact this.symm
   have hT2:∀ w',Below w.heap.size w w'->NC w':=fun w' h=>hT.below h
   have HT:=hid hT2;have hIc:=hid hI;obtain⟨R,hR⟩:∃ R,R=jC l l[k] l.length 0 ⟨k+1,[],false⟩:=⟨_,rfl⟩;have hW:=fun w1 (H:Rq w.heap.size w l 0 ⟨k,[],false⟩ w1)=>GR H hl hk rfl HT.out
   simp only [<- hR] at hW e;have HRR:=hid hR;have HW:=hid hW;have hq34:∀ b,decide (l[k]=34)=b->(if l[k]=34 then (7:Int) else 6)=if b then 7 else 6:=fun b h=>by subst h;simp
   have H0:∀ o,o=Obj.cells #[.string ⟨l.toArray⟩,i8 (k:Int),.int .u8 0,.slice none 0 0,.bool false] 191->Rq w.heap.size w l 0 ⟨k,[],false⟩ (w.alloc o):=by
    rintro o rfl;exact⟨⟨.slice none 0 0,B8 w _,rfl,.inl ⟨rfl,rfl⟩⟩,(N' _ _).alloc (C' _) _⟩
   clear hW hR hT hT2;cases h5:R.1 with
   | false =>
    rw [h5,Bc Cu] at e;rw [e];clear e
    go_in
    go_wp2_with (first|(go_at_call 221;refine (hI _).mono ?_;rintro e w1 ⟨rfl,rfl⟩)|(go_at_call 281;refine (HW.out _ (H0 _ rfl)).mono ?_;rintro e w2 ⟨rfl,hR2⟩))
    all_goals (try simp only [Exit.inBlock,Exit.then]);refine Ca (RC rfl _ _ _) rfl ?_
    all_goals exact⟨rfl,hR2.bel⟩
   | true =>
    rw [h5,Bb rfl] at e;cases h6:((l[k].toNat:Int)==34) with
    | true =>
     rw [hq34 true (by rw [zF];exact h6),Bb rfl] at e;rw [e];clear e hq34
     go_in
     exact za4
    | false =>
     rw [hq34 false (by rw [zF];exact h6),Bc Cu] at e;rw [e];clear e hq34
     go_in
     exact za4
 ·have e:YA l k=⟨0,0,[],15⟩:=by unfold YA;rw [dif_neg Cs]
  rw [e]
  go_in
  exact zck
theorem rR (l:List UInt8) (a:Int) (hl:l.length<=1048576) (hT:NC w) :
  Calls Tryz.prog 225 #[.string ⟨l.toArray⟩,i8 a] w (fun e w'=>e=.returned (.tuple #[.int .u8 (YA l a).k,i8 (YA l a).tx,i8 (YA l a).e])/\Below w.heap.size w w'):=by
 have hC:=pM l a hl hT
 go_in
 go_wp2_with (go_at_call 265;refine hC.mono ?_;rintro e w1 ⟨rfl,hb⟩;simp only [Lit.val]);go_ret3;exact⟨rfl,hb⟩
def uG (l:List UInt8):List UInt8 × Int:=if (YA l 0).e=0/\(YA l 0).tx=l.length then ((YA l 0).v,0) else ([],4)
end
