import Derived.Deep.CutRange
import Derived.BigRegion
import Derived.Lib.QuoteLoop
import Derived.Test.YtcjmpafkcmlhbaaGreatDoorQAV
namespace Go.Proofs.YtcjmpafkcmlhbaaGreatDoor
open Lib(hid)
set_option linter.all false
set_option maxHeartbeats 40000000
set_option maxRecDepth 100000
section
open Go.RowKit
variable {w:World}
theorem pX {l:List UInt8} (h:l≠[]):(dec l).2≤l.length:=by
 have h0:(ByteArray.mk l.toArray).size≠0:=by simpa [ByteArray.size] using h
 unfold dec Lib.decodeGo;rw [if_neg h0];have:=Lib.width_le ⟨l.toArray⟩ (by omega);simpa [ByteArray.size] using this
def vD (l:List UInt8) (m:UInt8) (k:Nat):Nat:=if m=39 then (vB l k).2.toNat else 1
theorem oI (l:List UInt8) (k:Nat) (h:k < l.length):0≤(vB l k).2∧(vB l k).2≤l.length - k:=by
 have hne:l.drop k≠[]:=by intro e;have:=congrArg List.length e;simp at this;omega
 have h1:=pX hne;simp only [List.length_drop] at h1;unfold vB;rw [if_neg (by omega),Int.toNat_natCast];split
 ·exact⟨Int.le_refl _,by omega⟩
 ·exact⟨by show (0:Int)≤_;omega,by show ((dec (l.drop k)).2:Int)≤_;omega⟩
theorem tN (l:List UInt8) (m:UInt8) (k:Nat) (h:k < l.length):vD l m k≤l.length - k:=by
 have:=oI l k h;unfold vD;split <;> omega
def PD (l:List UInt8) (m:UInt8) (q:Qs):Qs:=⟨q.k+vD l m q.k,q.out++(l.drop q.k).take (vD l m q.k),decide (vD l m q.k=0)||decide (l[q.k]?.getD 0=10)⟩
theorem IR {c:Nat}{w0:World}{l:List UInt8}{m:UInt8}{k:Nat}{out:List UInt8} (H:Rq c w0 l m ⟨k,out,false⟩ w) (hl:l.length≤1048576) (hkl:k < l.length) (ho:out.length≤4*k) (hT:NC w) :
  Calls Tryz.prog 181 #[.pointer (some ⟨c,0,none⟩)] w (fun e w'=>e=.returned (.tuple #[])∧Rq c w0 l m (PD l m ⟨k,out,false⟩) w'):=by
 have hle:=tN l m k hkl;have hr2:=oI l k hkl;have hNd:vD l m k=if m=39 then (vB l k).2.toNat else 1:=rfl
 unfold PD;simp only [];obtain⟨n,hn⟩:∃ n,n=vD l m k:=⟨_,rfl⟩;rw [← hn] at hle hNd ⊢;have hB:(decide (n=0)||decide (l[k]?.getD 0=10))=(((n:Int)==0)||((l[k].toNat:Int)==10)):=by
  rw [List.getElem?_eq_getElem hkl];have e1:decide (n=0)=((n:Int)==0):=by rw [Bool.eq_iff_iff];simp
  have e2:decide ((some l[k]).getD 0=10)=((l[k].toNat:Int)==10):=by
   rw [Bool.eq_iff_iff];simp only [decide_eq_true_eq,Option.getD_some,beq_iff_eq];exact⟨fun h=>by rw [h];rfl,fun h=>UInt8.toNat_inj.1 (by show _=10;omega)⟩
  rw [e1,e2]
 rw [hB];obtain⟨B,hBB⟩:∃ B,B=(((n:Int)==0)||((l[k].toNat:Int)==10)):=⟨_,rfl⟩;rw [← hBB];have HBB:=hid hBB;clear hB hBB;have HN:=hid (And.intro hNd hr2);clear hn hNd hr2;have HH:=hid H;obtain⟨ov,hblk,hown⟩:=H.blk;obtain⟨c0,c1,c2,c3,c4,f1,f2,f3,f4⟩:=CA hblk;simp only [] at c0 c1 c2 c3 c4;clear hblk hown H;go_enter Tryz.func181,Tryz.ntmps181
 go_upto_if 7 with fail
 go_cut [2] from 3 (fun v wx=>v=.int .i64 (n:Int)∧Rq c w0 l m ⟨k,out,false⟩ wx)
 case first =>
  have hread:=QI (w:=w.drew) l k (by omega) hT.drew;by_cases hm:m=39
  ·have d0:((m.toNat:Int)==39)=true:=by subst hm;rfl
   go_wp2_with fail
   go_region_law ((go_simp;go_at_call 127;refine hread.mono ?_;rintro e w2 ⟨rfl,hb⟩))
   all_goals
    go_wp2_with fail
    go_meet
    case rel=>exact⟨by have:=HN.out;rw [if_pos hm] at this;show Value.int _ _=_;congr 1;omega,(HH.out.drewN 1).later hb⟩
  ·have d0:((m.toNat:Int)==39)=false:=by
    rw [beq_eq_false_iff_ne];intro e;exact hm (UInt8.toNat_inj.1 (by show _=39;omega))
   go_wp2_with fail
   go_meet
   case rel=>exact⟨by have:=HN.out.1;rw [if_neg hm] at this;rw [this];rfl,HH.out⟩
 case rest =>
  obtain⟨rfl,hR⟩:=hcut;have hcs:(((n:Int)==0)=true)∨(((n:Int)==0)=false∧((l[k].toNat:Int)==10)=true)∨(((n:Int)==0)=false∧((l[k].toNat:Int)==10)=false):=by
   cases ((n:Int)==0) <;> cases ((l[k].toNat:Int)==10) <;> simp
  clear c0 c1 c2 c3 c4 f1 f2 f3 f4 HH HN hT;obtain⟨ov,hblk,hown⟩:=hR.blk;obtain⟨c0,c1,c2,c3,c4,f1,f2,f3,f4⟩:=CA hblk;simp only [] at c0 c1 c2 c3 c4 hblk hown;have hwr:IntKind.i64.wrap ((k:Int)+(n:Int))=(k:Int)+(n:Int):=IntWalk.i64_in _ (by omega);have hw0:0≤(k:Int)+(n:Int):=by omega
  have hw1:(k:Int)+(n:Int)≤(l.length:Int):=by omega
  have hw2:(k:Int)≤(k:Int)+(n:Int):=by omega
  have hw3:((k:Int)+(n:Int)).toNat - k=n:=by omega
  have hsz:(ByteArray.mk ((l.drop k).take n).toArray).size=n:=by simp [ByteArray.size];omega
  obtain⟨iU,hiU,hz0,hz1,hz2⟩:=info_parts Tryz.infoU8;have HBO:=hid HBB.out;clear HBB;go_upto_region 3 with fail
  go_cut [] from 20 (fun wx=>Rq c w0 l m ⟨k,out,B⟩ wx)
  case first =>
   rcases hcs with d1|⟨d1,d2⟩|⟨d1,d2⟩
   ·have hBv:B=true:=by rw [HBO.out,d1];rfl
    go_region;go_wp2_with fail
    go_meet
    case rel=>rw [hBv];exact (Rq.bad_ hR true).drewN 1
   ·have hBv:B=true:=by rw [HBO.out,d1,d2];rfl
    go_region;go_wp2_with fail
    go_meet
    case rel=>rw [hBv];exact (Rq.bad_ hR true).drewN 1
   ·have hBv:B=false:=by rw [HBO.out,d1,d2];rfl
    go_region;go_wp2_with fail
    go_meet
    case rel=>rw [hBv];exact (Rq.bad_ hR false).drewN 1
  case rest =>
   clear c0 c1 c2 c3 c4 f1 f2 f3 f4 hcs hblk hown hR;obtain⟨ov,hblk,hown⟩:=hcut.blk;obtain⟨c0,c1,c2,c3,c4,f1,f2,f3,f4⟩:=CA hblk;simp only [] at c0 c1 c2 c3 c4 hblk hown;have hclt:=lt_of_block hblk;go_wp2_with fail;refine wp_region_held_drew (S:=fun w'=>w'.cell? ⟨c,0,none⟩=some (.string ⟨l.toArray⟩)∧w'.cell? ⟨c,1,none⟩=some (.int .i64 (k:Int))) (by kernel_rfl) ?_ (fun hHeld=>?_)
   ·((try dsimp only);(first|exact⟨c0,c1⟩|exact⟨k0,k1⟩|exact⟨s0,s1⟩))
   refine tk 0 ?_;try simp only [Act.put,ls]
   refine tk 1 ?_;try simp only [Act.put,ls]
   refine tk 2 ?_;try simp only [Act.put,ls]
   refine tk 3 ?_;try simp only [Act.put,ls]
   refine tk 5 ?_;try simp only [Act.put,ls]
   refine tk 6 ?_;try simp only [Act.put,ls]
   refine tk 7 ?_;try simp only [Act.put,ls]
   refine tk 8 ?_;try simp only [Act.put,ls]
   refine tk 9 ?_;try simp only [Act.put,ls]
   refine tk 10 ?_;try simp only [Act.put,ls]
   refine tk 11 ?_;try simp only [Act.put,ls]
   refine tk 12 ?_;try simp only [Act.put,ls]
   refine tk 13 ?_;try simp only [Act.put,ls]
   refine tk 14 ?_;try simp only [Act.put,ls]
   refine tk 15 ?_;try simp only [Act.put,ls]
   refine tk 16 ?_;try simp only [Act.put,ls]
   refine tk 17 ?_;try simp only [Act.put,ls]
   refine tk 18 ?_;try simp only [Act.put,ls]
   refine tk 19 ?_;try simp only [Act.put,ls]
   refine wpAnyH_ready (rs:=[4]) (by kernel_rfl) (by simp) (AllReadyH.cons (o:=?_) ?_ (fun K hK=>?_) AllReadyH.nil)
   rotate_left
   ·(first|(simp only [List.getElem?_toArray,List.getElem?_cons_succ,List.getElem?_cons_zero];done)|(simp only [List.getElem?_toArray,List.getElem?_cons_succ,List.getElem?_cons_zero];exact rfl))
   go_simp;go_wp2_with fail;refine hK.out _ _ ?_ (fun hHeld4=>?_)
   ·((try dsimp only);(first|exact⟨c0,c1⟩|exact⟨k0,k1⟩|exact⟨s0,s1⟩))
   clear hK K
   try simp only [Act.put,List.setIfInBounds_toArray,List.set_cons_zero,List.set_cons_succ]
   refine wpAnyH_ready (rs:=[20]) (by kernel_rfl) (by simp) (AllReadyH.cons (o:=?_) ?_ (fun K hK=>?_) AllReadyH.nil)
   rotate_left
   ·(first|(simp only [List.getElem?_toArray,List.getElem?_cons_succ,List.getElem?_cons_zero];done)|(simp only [List.getElem?_toArray,List.getElem?_cons_succ,List.getElem?_cons_zero];exact rfl))
   refine sH _ (by rfl) _ _ _ _ (by rfl) (c+1) 5 iU Tryz.underBs Tryz.underStr hiU hz0 hz1 hz2 ov out.length (Lib.byteCells out) (by rfl) hown.drew ⟨((l.drop k).take n).toArray⟩ (by rfl) (by rw [hsz];unfold maxLen;omega) (by rw [hsz];omega) hclt ?_;intro v2 w2 hown2 hgrow2;obtain⟨va2,vn2,vc2,rfl⟩:=ND hown2;have hb2:=uE (by exact hblk) hown.drew hgrow2;obtain⟨k0,k1,_,k3,_,_,_,z3,_⟩:=CA hb2;have hb3:(w2.setCell ⟨c,3,none⟩ (.slice va2 vn2 vc2)).heap[c]?=some (.cells #[.string ⟨l.toArray⟩,.int .i64 (k:Int),.int .u8 (m.toNat:Int),.slice va2 vn2 vc2,.bool B] 149 (0,0)):=by rw [heap_setCell_same w2 c 3 _ _ _ hb2];rfl
   obtain⟨s0,s1,_,_,_,t1,_⟩:=CA hb3;refine hK.out _ _ ?_ (fun hHeld20=>?_)
   ·((try dsimp only);(first|exact⟨c0,c1⟩|exact⟨k0,k1⟩|exact⟨s0,s1⟩))
   clear hK K
   try simp only [Act.put,List.setIfInBounds_toArray,List.set_cons_zero,List.set_cons_succ]
   refine wpAnyH_ready (rs:=[21]) (by kernel_rfl) (by simp) (AllReadyH.cons (o:=?_) ?_ (fun K hK=>?_) AllReadyH.nil)
   rotate_left
   ·(first|(simp only [List.getElem?_toArray,List.getElem?_cons_succ,List.getElem?_cons_zero];done)|(simp only [List.getElem?_toArray,List.getElem?_cons_succ,List.getElem?_cons_zero];exact rfl))
   go_simp;go_wp2_with fail;refine hK.out _ _ ?_ (fun hHeld21=>?_)
   ·((try dsimp only);(first|exact⟨c0,c1⟩|exact⟨k0,k1⟩|exact⟨s0,s1⟩))
   clear hK K
   try simp only [Act.put,List.setIfInBounds_toArray,List.set_cons_zero,List.set_cons_succ]
   refine wpAnyH_ready (rs:=[22]) (by kernel_rfl) (by simp) (AllReadyH.cons (o:=?_) ?_ (fun K hK=>?_) AllReadyH.nil)
   rotate_left
   ·(first|(simp only [List.getElem?_toArray,List.getElem?_cons_succ,List.getElem?_cons_zero];done)|(simp only [List.getElem?_toArray,List.getElem?_cons_succ,List.getElem?_cons_zero];exact rfl))
   go_simp;go_wp2_with fail;refine hK.out _ _ ?_ (fun hHeld22=>?_)
   ·((try dsimp only);(first|exact⟨c0,c1⟩|exact⟨k0,k1⟩|exact⟨s0,s1⟩))
   clear hK K
   try simp only [Act.put,List.setIfInBounds_toArray,List.set_cons_zero,List.set_cons_succ]
   refine wpAnyH_ready (rs:=[23]) (by kernel_rfl) (by simp) (AllReadyH.cons (o:=?_) ?_ (fun K hK=>?_) AllReadyH.nil)
   rotate_left
   ·(first|(simp only [List.getElem?_toArray,List.getElem?_cons_succ,List.getElem?_cons_zero];done)|(simp only [List.getElem?_toArray,List.getElem?_cons_succ,List.getElem?_cons_zero];exact rfl))
   go_simp;go_wp2_with fail;refine hK.out _ _ ?_ (fun hHeld23=>?_)
   ·((try dsimp only);(first|exact⟨c0,c1⟩|exact⟨k0,k1⟩|exact⟨s0,s1⟩))
   clear hK K
   try simp only [Act.put,List.setIfInBounds_toArray,List.set_cons_zero,List.set_cons_succ]
   refine wpAnyH_done (by kernel_rfl) ?_ _;go_wp2_with fail;go_end0;exact⟨rfl,Rq.at_ (Rq.push (q:=⟨k,out,B⟩) (bs:=(l.drop k).take n) hcut.bel.drew hblk hown.drew hgrow2 hown2 (by rw [hsz];simp;omega) rfl) (k+n)⟩
end
section
open Go.RowKit
variable {w:World}
def jC (l:List UInt8) (m:UInt8):Nat→Nat→Qs→Bool × Qs
 | 0,_,q=>(false,q)
 | f+1,it,q =>
  if h:q.k < l.length then
   if q.bad=true then (false,q)
   else if l[q.k]=m then (decide (m=34)||decide (it=1),⟨q.k+1,q.out,q.bad⟩)
   else if m=39∧it=1 then (false,q)
   else if l[q.k]=92 then jC l m f (it+1) (zC l m ⟨q.k+1,q.out,q.bad⟩)
   else jC l m f (it+1) (PD l m q)
  else (false,q)
theorem aN {l:List UInt8}{m:UInt8}{f it:Nat}{q:Qs} (h:¬ q.k < l.length∨q.bad=true):jC l m f it q=(false,q):=by
 cases f with
 | zero=>rfl
 | succ f =>
  rw [jC];split
  ·rename_i h1;rw [if_pos (h.resolve_left (fun h2=>h2 h1))]
  ·rfl
theorem qG (l:List UInt8) (m:UInt8) (q:Qs) (hk:q.k≤l.length):q.k≤(zC l m q).k∧(zC l m q).k≤l.length∧(zC l m q).out.length≤q.out.length+4:=by
 have hN:=fun (b:Int) (hb:b=8∨b=16) f (p:Qs) (hp:p.k≤l.length)=>rE l b hb f p 0 0 (by decide) (by rw [Int.pow_zero];decide) hp
 have hC:=fun n ch p=>WH m n ch p
 unfold zC;split
 ·rename_i h;have h16:=fun f=>hN 16 (.inr rfl) f ⟨q.k+1,q.out,q.bad⟩ (by show q.k+1≤_;omega)
  have h8:=hN 8 (.inl rfl) 3 q hk;simp only [] at h16;split
  ·simp;omega
  ·split
   ·simp;omega
   ·split
    ·obtain⟨_,_,a,b,e⟩:=h16 2;obtain⟨x,y,_⟩:=hC (TA l 16 2 ⟨q.k+1,q.out,q.bad⟩ 0).1 false (TA l 16 2 ⟨q.k+1,q.out,q.bad⟩ 0).2;rw [e] at y;omega
    ·split
     ·obtain⟨_,_,a,b,e⟩:=h16 8;obtain⟨x,y,_⟩:=hC (TA l 16 8 ⟨q.k+1,q.out,q.bad⟩ 0).1 true (TA l 16 8 ⟨q.k+1,q.out,q.bad⟩ 0).2;rw [e] at y;omega
     ·split
      ·obtain⟨_,_,a,b,e⟩:=h16 4;obtain⟨x,y,_⟩:=hC (TA l 16 4 ⟨q.k+1,q.out,q.bad⟩ 0).1 true (TA l 16 4 ⟨q.k+1,q.out,q.bad⟩ 0).2;rw [e] at y;omega
      ·obtain⟨_,_,a,b,e⟩:=h8;obtain⟨x,y,_⟩:=hC ((TA l 8 3 q 0).1 % 256) false ⟨(TA l 8 3 q 0).2.k,(TA l 8 3 q 0).2.out,(TA l 8 3 q 0).2.bad||decide (255 < (TA l 8 3 q 0).1)⟩;have x:_=(TA l 8 3 q 0).2.k:=x;have y:_≤(TA l 8 3 q 0).2.out.length+4:=y;have e2:(TA l 8 3 q 0).2.out.length=q.out.length:=by rw [e]
       omega
 ·simp;omega
theorem SG (l:List UInt8) (m:UInt8) (q:Qs) (h:q.k < l.length):(PD l m q).k≤l.length∧(PD l m q).out.length=q.out.length+((PD l m q).k - q.k)∧q.k≤(PD l m q).k∧((PD l m q).bad=false→q.k < (PD l m q).k):=by
 have:=tN l m q.k h;unfold PD;simp only [List.length_append,List.length_take,List.length_drop,Bool.or_eq_false_iff,decide_eq_false_iff_not];omega
theorem zF (x y:UInt8):decide (x=y)=((x.toNat:Int)==(y.toNat:Int)):=by
 rw [Bool.eq_iff_iff];simp only [decide_eq_true_eq,beq_iff_eq];exact⟨fun h=>by rw [h],fun h=>UInt8.toNat_inj.1 (by omega)⟩
theorem xW (x y:Nat):decide (x=y)=((x:Int)==(y:Int)):=by
 rw [Bool.eq_iff_iff];simp only [decide_eq_true_eq,beq_iff_eq];omega
theorem GR {c:Nat}{w0:World}{l:List UInt8}{m0 m:UInt8}{a:Nat} (H:Rq c w0 l m0 ⟨a,[],false⟩ w) (hl:l.length≤1048576) (ha:a < l.length) (hm:l[a]=m) (hT:∀ w',Below c w0 w'→NC w') :
  Calls Tryz.prog 131 #[.pointer (some ⟨c,0,none⟩)] w (fun e w'=>e=.returned (.bool (jC l m l.length 0 ⟨a+1,[],false⟩).1)∧Rq c w0 l m (jC l m l.length 0 ⟨a+1,[],false⟩).2 w'):=by
 obtain⟨ov,hblk,hown⟩:=H.blk;obtain⟨c0,c1,c2,c3,c4,f1,f2,f3,f4⟩:=CA hblk;simp only [] at c0 c1 c2 c3 c4;have HT:=hid hT;clear hblk hown hT;have hma:l[a].toNat=m.toNat:=by rw [hm]
 obtain⟨R,hRR⟩:∃ R,R=jC l m l.length 0 ⟨a+1,[],false⟩:=⟨_,rfl⟩;rw [← hRR];have HRR:=hid hRR;clear hRR;go_enter Tryz.func131,Tryz.ntmps131;go_wp2_with fail;go_region;have hR1:Rq c w0 l m ⟨a,[],false⟩ (w.setCell ⟨c,2,none⟩ (.int .u8 (m.toNat:Int))).drew:=(Rq.mark H m).drewN 1;have HR1:=hid hR1;obtain⟨ov1,hblk,hown⟩:=hR1.blk;clear c0 c1 c2 c3 c4 f1 f2 f3 f4;obtain⟨c0,c1,c2,c3,c4,f1,f2,f3,f4⟩:=CA hblk;simp only [] at c0 c1 c2 c3 c4;clear hblk hown hR1;generalize (w.setCell ⟨c,2,none⟩ (.int .u8 (m.toNat:Int))).drew=w1 at *;go_wp2_with fail
 go_loopg [3] l.length (fun j v3 wr=>∃ (it:Nat) (q:Qs),v3=.int .i64 (it:Int)∧it+j=l.length∧Rq c w0 l m q wr∧jC l m j it q=R∧(q.bad=false→l.length≤q.k+j)∧q.k≤l.length∧q.out.length≤4*q.k)
 case atStart=>exact⟨0,⟨a+1,[],false⟩,rfl,by omega,Rq.at_ HR1.out (a+1),HRR.out.symm,fun _=>by show _≤a+1+_;omega,by show a+1≤_;omega,Nat.zero_le _⟩
 case round =>
  obtain⟨it,⟨k,out,bad⟩,rfl,hj,HR,HQ,hf,hk,ho⟩:=hrel;simp only [] at hf hk ho;clear c0 c1 c2 c3 c4 f1 f2 f3 f4;obtain⟨ov2,hblk,hown⟩:=HR.blk;obtain⟨c0,c1,c2,c3,c4,f1,f2,f3,f4⟩:=CA hblk;simp only [] at c0 c1 c2 c3 c4;have HK:=hid (And.intro HR (And.intro HQ (And.intro hf hj)));clear hblk hown HR HQ hf hj;by_cases hkl:k < l.length
  ·have d1:decide ((k:Int) < (l.length:Int))=true:=by simpa using hkl
   cases bad with
   | true =>
    go_wp2_with fail;go_quiet (fail);go_wp2_with fail;go_ret;obtain⟨HR,HQ,_,_⟩:=HK.out;rw [aN (.inr rfl)] at HQ;rw [← HQ];exact⟨rfl,HR.drewN _⟩
   | false =>
    have hstep:R=if decide (l[k]=m)=true then (decide (m=34)||decide (it=1),⟨k+1,out,false⟩) else if decide (m=39)=true∧decide (it=1)=true then (false,⟨k,out,false⟩) else if decide (l[k]=92)=true then jC l m (gk - 1) (it+1) (zC l m ⟨k+1,out,false⟩) else jC l m (gk - 1) (it+1) (PD l m ⟨k,out,false⟩):=by
     obtain⟨HR,HQ,hf,hj⟩:=HK.out;have hf:=hf rfl;obtain⟨j',rfl⟩:∃ j',gk=j'+1:=⟨gk - 1,by omega⟩;rw [← HQ,jC,dif_pos hkl,if_neg (by simp)];simp only [decide_eq_true_eq,Nat.add_sub_cancel]
    rw [zF,zF,zF,zF,xW] at hstep;have hstep:R=if ((l[k].toNat:Int)==(m.toNat:Int))=true then (((m.toNat:Int)==34)||((it:Int)==1),⟨k+1,out,false⟩) else if ((m.toNat:Int)==39)=true∧((it:Int)==1)=true then (false,⟨k,out,false⟩) else if ((l[k].toNat:Int)==92)=true then jC l m (gk - 1) (it+1) (zC l m ⟨k+1,out,false⟩) else jC l m (gk - 1) (it+1) (PD l m ⟨k,out,false⟩):=hstep
    have hit:it≤1048576:=by have:=HK.out.2.2.2;omega
    have hw:IntKind.i64.wrap ((it:Int)+1)=(it:Int)+1:=IntWalk.i64_in _ (by omega);have hgk:1≤gk:=by have:=HK.out.2.2.1 rfl;omega
    cases dm:((l[k].toNat:Int)==(m.toNat:Int)) with
    | true =>
     rw [dm,if_pos rfl] at hstep;have HS:=hid hstep;clear hstep;have hcs:((m.toNat:Int)==34)=true∨((m.toNat:Int)==34)=false∧((it:Int)==1)=true∨((m.toNat:Int)==34)=false∧((it:Int)==1)=false:=by
      cases ((m.toNat:Int)==34) <;> cases ((it:Int)==1) <;> simp
     rcases hcs with d2|⟨d2,d3⟩|⟨d2,d3⟩
     all_goals
      go_wp2_with fail;go_quiet (fail);go_wp2_with fail;generalize nq=na at *;go_quiet (fail);go_wp2_with fail;go_ret;rw [HS.out];exact⟨by simp only [d2];first|rfl|(simp only [d3];rfl),Rq.at_ (HK.out.1.drewN _) (k+1)⟩
    | false =>
     rw [dm,if_neg (by simp)] at hstep;have hcs:((m.toNat:Int)==39)=true∧((it:Int)==1)=true∨((m.toNat:Int)==39)=false∨((m.toNat:Int)==39)=true∧((it:Int)==1)=false:=by
      cases ((m.toNat:Int)==39) <;> cases ((it:Int)==1) <;> simp
     have hcs2:((l[k].toNat:Int)==92)=true∨((l[k].toNat:Int)==92)=false:=by cases ((l[k].toNat:Int)==92) <;> simp
     rcases hcs with ⟨d2,d3⟩|d2|⟨d2,d3⟩
     ·rw [if_pos ⟨d2,d3⟩] at hstep;have HS:=hid hstep;clear hstep hcs2;go_wp2_with fail;go_quiet (fail);go_wp2_with fail;generalize nq=na at *;go_quiet (fail);go_wp2_with fail;go_ret;rw [HS.out];exact⟨rfl,HK.out.1.drewN _⟩
     all_goals
      rw [if_neg (by simp [*])] at hstep;rcases hcs2 with d4|d4
      ·rw [if_pos d4] at hstep;have HS:=hid hstep;have HF:=hid (qG l m ⟨k+1,out,false⟩ (by show k+1≤_;omega));clear hstep;go_wp2_with fail;go_quiet (fail);go_wp2_with fail;generalize nq=na at *;go_quiet (fail);go_wp2_with (go_at_call 180;refine (PP (Rq.at_ (HK.out.1.drewN (na+nq)) (k+1)) hl (by show out.length≤4*(k+1);omega)).mono ?_;rintro e w2 ⟨rfl,hR2⟩);have hHF:=HF.out;have hf:=HK.out.2.2.1 (by first|rfl|trivial);have hj:=HK.out.2.2.2
       (try simp only [] at hHF)
       go_roundg (gk - 1)
       case measure=>omega
       case rel=>exact⟨it+1,zC l m ⟨k+1,out,false⟩,by simp,by omega,hR2,HS.out.symm,fun _=>by omega,hHF.2.1,by omega⟩
      ·rw [if_neg (by simp [d4])] at hstep;have HS:=hid hstep;have HF:=hid (SG l m ⟨k,out,false⟩ hkl);clear hstep;go_wp2_with fail;go_quiet (fail);go_wp2_with fail;generalize nq=na at *;go_quiet (fail);go_wp2_with (go_at_call 181;refine (IR (HK.out.1.drewN (na+nq)) hl hkl ho (HT.out _ (HK.out.1.drewN (na+nq)).bel)).mono ?_;rintro e w2 ⟨rfl,hR2⟩);have hHF:=HF.out;have hf:=HK.out.2.2.1 (by first|rfl|trivial);have hj:=HK.out.2.2.2
       (try simp only [] at hHF)
       go_roundg (gk - 1)
       case measure=>omega
       case rel=>exact⟨it+1,PD l m ⟨k,out,false⟩,by simp,by omega,hR2,HS.out.symm,fun hb=>by have:=hHF.2.2.2 hb;omega,hHF.1,by omega⟩
  ·have d1:decide ((k:Int) < (l.length:Int))=false:=by simpa using hkl
   go_wp2_with fail;go_quiet (fail);go_wp2_with fail;go_ret;obtain⟨HR,HQ,_,_⟩:=HK.out;rw [aN (.inl hkl)] at HQ;rw [← HQ];exact⟨rfl,HR.drewN _⟩
end
end Go.Proofs.YtcjmpafkcmlhbaaGreatDoor
