import Derived.Deep.CutRange
import Derived.BigRegion
import Derived.Lib.QuoteLoop
import Derived.Test.YtfmpphplbdojbaaGreatDoorQAW
namespace Go.Proofs.YtfmpphplbdojbaaGreatDoor
open Lib(hid)
set_option linter.all false
set_option maxHeartbeats 40000000
set_option maxRecDepth 100000
section
open Go.RowKit
variable {w:World}
theorem pX {l:List UInt8} (h:l≠[]):(dec l).2≤l.length:=by
 have h0:(ByteArray.mk l.toArray).size≠0:=by simpa [ByteArray.size] using h
 unfold dec Lib.decodeGo;rw [if_neg h0];have:=Lib.width_le ⟨l.toArray⟩ (by omega);simpa [ByteArray.size] using this
def vD (l:List UInt8) (m:UInt8) (k:Nat):Nat:=if m=39 then (vB l k).2.toNat else 1
theorem oI (l:List UInt8) (k:Nat) (h:k < l.length):0≤(vB l k).2∧(vB l k).2≤l.length - k:=by
 have hne:l.drop k≠[]:=by intro e;have:=congrArg List.length e;simp at this;omega
 have h1:=pX hne;simp only [List.length_drop] at h1;unfold vB;rw [if_neg (by omega),Int.toNat_natCast];split
 ·exact⟨Int.le_refl _,by omega⟩
 ·exact⟨by show (0:Int)≤_;omega,by show ((dec (l.drop k)).2:Int)≤_;omega⟩
theorem tN (l:List UInt8) (m:UInt8) (k:Nat) (h:k < l.length):vD l m k≤l.length - k:=by
 have:=oI l k h;unfold vD;split <;> omega
def PD (l:List UInt8) (m:UInt8) (q:Qs):Qs:=⟨q.k+vD l m q.k,q.out++(l.drop q.k).take (vD l m q.k),decide (vD l m q.k=0)||decide (l[q.k]?.getD 0=10)⟩
theorem IR {c:Nat}{w0:World}{l:List UInt8}{m:UInt8}{k:Nat}{out:List UInt8} (H:Rq c w0 l m ⟨k,out,false⟩ w) (hl:l.length≤1048576) (hkl:k < l.length) (ho:out.length≤4*k) (hT:NC w) :
  Calls Tryz.prog 171 #[.pointer (some ⟨c,0,none⟩)] w (fun e w'=>e=.returned (.tuple #[])∧Rq c w0 l m (PD l m ⟨k,out,false⟩) w'):=by
 have hle:=tN l m k hkl;have hr2:=oI l k hkl;have hNd:vD l m k=if m=39 then (vB l k).2.toNat else 1:=rfl
 unfold PD;simp only [];obtain⟨n,hn⟩:∃ n,n=vD l m k:=⟨_,rfl⟩;rw [← hn] at hle hNd ⊢;have hB:(decide (n=0)||decide (l[k]?.getD 0=10))=(((n:Int)==0)||((l[k].toNat:Int)==10)):=by
  rw [List.getElem?_eq_getElem hkl];have e1:decide (n=0)=((n:Int)==0):=by rw [Bool.eq_iff_iff];simp
  have e2:decide ((some l[k]).getD 0=10)=((l[k].toNat:Int)==10):=by
   rw [Bool.eq_iff_iff];simp only [decide_eq_true_eq,Option.getD_some,beq_iff_eq];exact⟨fun h=>by rw [h];rfl,fun h=>UInt8.toNat_inj.1 (by show _=10;omega)⟩
  rw [e1,e2]
 rw [hB];obtain⟨B,hBB⟩:∃ B,B=(((n:Int)==0)||((l[k].toNat:Int)==10)):=⟨_,rfl⟩;rw [← hBB];have HBB:=hid hBB;clear hB hBB;have HN:=hid (And.intro hNd hr2);clear hn hNd hr2;have HH:=hid H;obtain⟨ov,hblk,hown⟩:=H.blk;obtain⟨c0,c1,c2,c3,c4,f1,f2,f3,f4⟩:=CA hblk;simp only [] at c0 c1 c2 c3 c4;clear hblk hown H;go_enter Tryz.func171,Tryz.ntmps171
 go_upto_if 7 with fail
 go_cut [2] from 3 (fun v wx=>v=.int .i64 (n:Int)∧Rq c w0 l m ⟨k,out,false⟩ wx)
 case first =>
  have hread:=QI (w:=w.drew) l k (by omega) hT.drew;by_cases hm:m=39
  ·have d0:((m.toNat:Int)==39)=true:=by subst hm;rfl
   go_wp2_with fail
   go_region_law ((go_simp;go_at_call 116;refine hread.mono ?_;rintro e w2 ⟨rfl,hb⟩))
   all_goals
    go_wp2_with fail
    go_meet
    case rel=>exact⟨by have:=HN.out;rw [if_pos hm] at this;show Value.int _ _=_;congr 1;omega,(HH.out.drewN 1).later hb⟩
  ·have d0:((m.toNat:Int)==39)=false:=by
    rw [beq_eq_false_iff_ne];intro e;exact hm (UInt8.toNat_inj.1 (by show _=39;omega))
   go_wp2_with fail
   go_meet
   case rel=>exact⟨by have:=HN.out.1;rw [if_neg hm] at this;rw [this];rfl,HH.out⟩
 case rest =>
  obtain⟨rfl,hR⟩:=hcut;have hcs:(((n:Int)==0)=true)∨(((n:Int)==0)=false∧((l[k].toNat:Int)==10)=true)∨(((n:Int)==0)=false∧((l[k].toNat:Int)==10)=false):=by
   cases ((n:Int)==0) <;> cases ((l[k].toNat:Int)==10) <;> simp
  clear c0 c1 c2 c3 c4 f1 f2 f3 f4 HH HN hT;obtain⟨ov,hblk,hown⟩:=hR.blk;obtain⟨c0,c1,c2,c3,c4,f1,f2,f3,f4⟩:=CA hblk;simp only [] at c0 c1 c2 c3 c4 hblk hown;have hwr:IntKind.i64.wrap ((k:Int)+(n:Int))=(k:Int)+(n:Int):=IntWalk.i64_in _ (by omega);have hw0:0≤(k:Int)+(n:Int):=by omega
  have hw1:(k:Int)+(n:Int)≤(l.length:Int):=by omega
  have hw2:(k:Int)≤(k:Int)+(n:Int):=by omega
  have hw3:((k:Int)+(n:Int)).toNat - k=n:=by omega
  have hsz:(ByteArray.mk ((l.drop k).take n).toArray).size=n:=by simp [ByteArray.size];omega
  obtain⟨iU,hiU,hz0,hz1,hz2⟩:=info_parts Tryz.infoU8;have HBO:=hid HBB.out;clear HBB;go_upto_region 3 with fail
  go_cut [] from 20 (fun wx=>Rq c w0 l m ⟨k,out,B⟩ wx)
  case first =>
   rcases hcs with d1|⟨d1,d2⟩|⟨d1,d2⟩
   ·have hBv:B=true:=by rw [HBO.out,d1];rfl
    go_region;go_wp2_with fail
    go_meet
    case rel=>rw [hBv];exact (Rq.bad_ hR true).drewN 1
   ·have hBv:B=true:=by rw [HBO.out,d1,d2];rfl
    go_region;go_wp2_with fail
    go_meet
    case rel=>rw [hBv];exact (Rq.bad_ hR true).drewN 1
   ·have hBv:B=false:=by rw [HBO.out,d1,d2];rfl
    go_region;go_wp2_with fail
    go_meet
    case rel=>rw [hBv];exact (Rq.bad_ hR false).drewN 1
  case rest =>
   clear c0 c1 c2 c3 c4 f1 f2 f3 f4 hcs hblk hown hR;obtain⟨ov,hblk,hown⟩:=hcut.blk;obtain⟨c0,c1,c2,c3,c4,f1,f2,f3,f4⟩:=CA hblk;simp only [] at c0 c1 c2 c3 c4 hblk hown;have hclt:=lt_of_block hblk;go_wp2_with fail;refine wp_region_held_drew (S:=fun w'=>w'.cell? ⟨c,0,none⟩=some (.string ⟨l.toArray⟩)∧w'.cell? ⟨c,1,none⟩=some (.int .i64 (k:Int))) (by kernel_rfl) ?_ (fun hHeld=>?_)
   ·((try dsimp only);(first|exact⟨c0,c1⟩|exact⟨k0,k1⟩|exact⟨s0,s1⟩))
   refine tk 0 ?_;try simp only [Act.put,ls]
   refine tk 1 ?_;try simp only [Act.put,ls]
   refine tk 2 ?_;try simp only [Act.put,ls]
   refine tk 3 ?_;try simp only [Act.put,ls]
   refine tk 5 ?_;try simp only [Act.put,ls]
   refine tk 6 ?_;try simp only [Act.put,ls]
   refine tk 7 ?_;try simp only [Act.put,ls]
   refine tk 8 ?_;try simp only [Act.put,ls]
   refine tk 9 ?_;try simp only [Act.put,ls]
   refine tk 10 ?_;try simp only [Act.put,ls]
   refine tk 11 ?_;try simp only [Act.put,ls]
   refine tk 12 ?_;try simp only [Act.put,ls]
   refine tk 13 ?_;try simp only [Act.put,ls]
   refine tk 14 ?_;try simp only [Act.put,ls]
   refine tk 15 ?_;try simp only [Act.put,ls]
   refine tk 16 ?_;try simp only [Act.put,ls]
   refine tk 17 ?_;try simp only [Act.put,ls]
   refine tk 18 ?_;try simp only [Act.put,ls]
   refine tk 19 ?_;try simp only [Act.put,ls]
   refine wpAnyH_ready (rs:=[4]) (by kernel_rfl) (by simp) (AllReadyH.cons (o:=?_) ?_ (fun K hK=>?_) AllReadyH.nil)
   rotate_left
   ·(first|(simp only [List.getElem?_toArray,List.getElem?_cons_succ,List.getElem?_cons_zero];done)|(simp only [List.getElem?_toArray,List.getElem?_cons_succ,List.getElem?_cons_zero];exact rfl))
   go_simp;go_wp2_with fail;refine hK.out _ _ ?_ (fun hHeld4=>?_)
   ·((try dsimp only);(first|exact⟨c0,c1⟩|exact⟨k0,k1⟩|exact⟨s0,s1⟩))
   clear hK K
   try simp only [Act.put,List.setIfInBounds_toArray,List.set_cons_zero,List.set_cons_succ]
   refine wpAnyH_ready (rs:=[20]) (by kernel_rfl) (by simp) (AllReadyH.cons (o:=?_) ?_ (fun K hK=>?_) AllReadyH.nil)
   rotate_left
   ·(first|(simp only [List.getElem?_toArray,List.getElem?_cons_succ,List.getElem?_cons_zero];done)|(simp only [List.getElem?_toArray,List.getElem?_cons_succ,List.getElem?_cons_zero];exact rfl))
   refine sH _ (by rfl) _ _ _ _ (by rfl) (c+1) 5 iU Tryz.underBs Tryz.underStr hiU hz0 hz1 hz2 ov out.length (Lib.byteCells out) (by rfl) hown.drew ⟨((l.drop k).take n).toArray⟩ (by rfl) (by rw [hsz];unfold maxLen;omega) (by rw [hsz];omega) hclt ?_;intro v2 w2 hown2 hgrow2;obtain⟨va2,vn2,vc2,rfl⟩:=ND hown2;have hb2:=uE (by exact hblk) hown.drew hgrow2;obtain⟨k0,k1,_,k3,_,_,_,z3,_⟩:=CA hb2;have hb3:(w2.setCell ⟨c,3,none⟩ (.slice va2 vn2 vc2)).heap[c]?=some (.cells #[.string ⟨l.toArray⟩,.int .i64 (k:Int),.int .u8 (m.toNat:Int),.slice va2 vn2 vc2,.bool B] 157 (0,0)):=by rw [heap_setCell_same w2 c 3 _ _ _ hb2];rfl
   obtain⟨s0,s1,_,_,_,t1,_⟩:=CA hb3;refine hK.out _ _ ?_ (fun hHeld20=>?_)
   ·((try dsimp only);(first|exact⟨c0,c1⟩|exact⟨k0,k1⟩|exact⟨s0,s1⟩))
   clear hK K
   try simp only [Act.put,List.setIfInBounds_toArray,List.set_cons_zero,List.set_cons_succ]
   refine wpAnyH_ready (rs:=[21]) (by kernel_rfl) (by simp) (AllReadyH.cons (o:=?_) ?_ (fun K hK=>?_) AllReadyH.nil)
   rotate_left
   ·(first|(simp only [List.getElem?_toArray,List.getElem?_cons_succ,List.getElem?_cons_zero];done)|(simp only [List.getElem?_toArray,List.getElem?_cons_succ,List.getElem?_cons_zero];exact rfl))
   go_simp;go_wp2_with fail;refine hK.out _ _ ?_ (fun hHeld21=>?_)
   ·((try dsimp only);(first|exact⟨c0,c1⟩|exact⟨k0,k1⟩|exact⟨s0,s1⟩))
   clear hK K
   try simp only [Act.put,List.setIfInBounds_toArray,List.set_cons_zero,List.set_cons_succ]
   refine wpAnyH_ready (rs:=[22]) (by kernel_rfl) (by simp) (AllReadyH.cons (o:=?_) ?_ (fun K hK=>?_) AllReadyH.nil)
   rotate_left
   ·(first|(simp only [List.getElem?_toArray,List.getElem?_cons_succ,List.getElem?_cons_zero];done)|(simp only [List.getElem?_toArray,List.getElem?_cons_succ,List.getElem?_cons_zero];exact rfl))
   go_simp;go_wp2_with fail;refine hK.out _ _ ?_ (fun hHeld22=>?_)
   ·((try dsimp only);(first|exact⟨c0,c1⟩|exact⟨k0,k1⟩|exact⟨s0,s1⟩))
   clear hK K
   try simp only [Act.put,List.setIfInBounds_toArray,List.set_cons_zero,List.set_cons_succ]
   refine wpAnyH_ready (rs:=[23]) (by kernel_rfl) (by simp) (AllReadyH.cons (o:=?_) ?_ (fun K hK=>?_) AllReadyH.nil)
   rotate_left
   ·(first|(simp only [List.getElem?_toArray,List.getElem?_cons_succ,List.getElem?_cons_zero];done)|(simp only [List.getElem?_toArray,List.getElem?_cons_succ,List.getElem?_cons_zero];exact rfl))
   go_simp;go_wp2_with fail;refine hK.out _ _ ?_ (fun hHeld23=>?_)
   ·((try dsimp only);(first|exact⟨c0,c1⟩|exact⟨k0,k1⟩|exact⟨s0,s1⟩))
   clear hK K
   try simp only [Act.put,List.setIfInBounds_toArray,List.set_cons_zero,List.set_cons_succ]
   refine wpAnyH_done (by kernel_rfl) ?_ _;go_wp2_with fail;go_end0;exact⟨rfl,Rq.at_ (Rq.push (q:=⟨k,out,B⟩) (bs:=(l.drop k).take n) hcut.bel.drew hblk hown.drew hgrow2 hown2 (by rw [hsz];simp;omega) rfl) (k+n)⟩
end
end Go.Proofs.YtfmpphplbdojbaaGreatDoor
