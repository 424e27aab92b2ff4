import Derived.Test.YtfmpphplbdojbaaGreatDoorQAX
namespace Go.Proofs.YtfmpphplbdojbaaGreatDoor
open Lib(hid)
set_option linter.all false
set_option maxHeartbeats 40000000
set_option maxRecDepth 100000
section
open Go.RowKit
variable {w:World}
def jC (l:List UInt8) (m:UInt8):Nat->Nat->Qs->Bool × Qs
 | 0,_,q=>(false,q)
 | f+1,it,q =>
  if h:q.k < l.length then
   if q.bad=true then (false,q)
   else if l[q.k]=m then (decide (m=34)||decide (it=1),⟨q.k+1,q.out,q.bad⟩)
   else if m=39/\it=1 then (false,q)
   else if l[q.k]=92 then jC l m f (it+1) (zC l m ⟨q.k+1,q.out,q.bad⟩)
   else jC l m f (it+1) (PD l m q)
  else (false,q)
theorem aN {l:List UInt8}{m:UInt8}{f it:Nat}{q:Qs} (h:¬ q.k < l.length∨q.bad=true):jC l m f it q=(false,q):=by
 cases f with
 | zero=>rfl
 | succ f =>
  rw [jC];split
  ·rename_i h1;rw [if_pos (h.resolve_left (fun h2=>h2 h1))]
  ·exact Ct
theorem qG (l:List UInt8) (m:UInt8) (q:Qs) (hk:q.k<=l.length):q.k<=(zC l m q).k/\(zC l m q).k<=l.length/\(zC l m q).out.length<=q.out.length+4:=by
 have hN:=fun (b:Int) (hb:b=8∨b=16) f (p:Qs) (hp:p.k<=l.length)=>rE l b hb f p 0 0 Ch (by rw [Int.pow_zero];decide) hp
 have hC:=fun n ch p=>WH m n ch p
 unfold zC;split
 ·rename_i h;have h16:=fun f=>hN 16 (.inr rfl) f ⟨q.k+1,q.out,q.bad⟩ Is
  have h8:=hN 8 (.inl rfl) 3 q hk;simp only [] at h16;split
  ·exact Cn
  ·split
   ·exact Cn
   ·split
    ·obtain⟨_,_,a,b,e⟩:=h16 2;obtain⟨x,y,_⟩:=hC (TA l 16 2 ⟨q.k+1,q.out,q.bad⟩ 0).1 false (TA l 16 2 ⟨q.k+1,q.out,q.bad⟩ 0).2;rw [e] at y;omega
    ·split
     ·obtain⟨_,_,a,b,e⟩:=h16 8;obtain⟨x,y,_⟩:=hC (TA l 16 8 ⟨q.k+1,q.out,q.bad⟩ 0).1 true (TA l 16 8 ⟨q.k+1,q.out,q.bad⟩ 0).2;rw [e] at y;omega
     ·split
      ·obtain⟨_,_,a,b,e⟩:=h16 4;obtain⟨x,y,_⟩:=hC (TA l 16 4 ⟨q.k+1,q.out,q.bad⟩ 0).1 true (TA l 16 4 ⟨q.k+1,q.out,q.bad⟩ 0).2;rw [e] at y;omega
      ·obtain⟨_,_,a,b,e⟩:=h8;obtain⟨x,y,_⟩:=hC ((TA l 8 3 q 0).1 % 256) false ⟨(TA l 8 3 q 0).2.k,(TA l 8 3 q 0).2.out,(TA l 8 3 q 0).2.bad||decide (255 < (TA l 8 3 q 0).1)⟩;have x:_=(TA l 8 3 q 0).2.k:=x;have y:_<=(TA l 8 3 q 0).2.out.length+4:=y;have e2:(TA l 8 3 q 0).2.out.length=q.out.length:=by rw [e]
       omega
 ·exact Cn
theorem SG (l:List UInt8) (m:UInt8) (q:Qs) (h:q.k < l.length):(PD l m q).k<=l.length/\(PD l m q).out.length=q.out.length+((PD l m q).k - q.k)/\q.k<=(PD l m q).k/\((PD l m q).bad=false->q.k < (PD l m q).k):=by
 have:=tN l m q.k h;unfold PD;simp only [O',List.length_take,V',Bool.or_eq_false_iff,decide_eq_false_iff_not];omega
theorem zF (x y:UInt8):decide (x=y)=((x.toNat:Int)==(y.toNat:Int)):=by
 rw [Bool.eq_iff_iff];simp only [decide_eq_true_eq,beq_iff_eq];exact⟨fun h=>by rw [h],fun h=>Av.1 Cf⟩
theorem xW (x y:Nat):decide (x=y)=((x:Int)==(y:Int)):=by
 rw [Bool.eq_iff_iff];simp only [decide_eq_true_eq,beq_iff_eq];omega
theorem GR {c:Nat}{w0:World}{l:List UInt8}{m0 m:UInt8}{a:Nat} (H:Rq c w0 l m0 ⟨a,[],false⟩ w) (hl:l.length<=1048576) (ha:a < l.length) (hm:l[a]=m) (hT:∀ w',Below c w0 w'->NC w') :
  Calls Tryz.prog 120 #[.pointer (some ⟨c,0,none⟩)] w (fun e w'=>e=.returned (.bool (jC l m l.length 0 ⟨a+1,[],false⟩).1)/\Rq c w0 l m (jC l m l.length 0 ⟨a+1,[],false⟩).2 w'):=by
 obtain⟨ov,hblk,hown⟩:=H.blk;obtain⟨c0,c1,c2,c3,c4,f1,f2,f3,f4⟩:=CA hblk;simp only [] at c0 c1 c2 c3 c4;have HT:=hid hT;clear hblk hown hT;have hma:l[a].toNat=m.toNat:=by rw [hm]
 obtain⟨R,hRR⟩:∃ R,R=jC l m l.length 0 ⟨a+1,[],false⟩:=⟨_,rfl⟩;rw [<- hRR];have HRR:=hid hRR;clear hRR;go_enter Tryz.func120,Tryz.ntmps120;go_wp2_with fail;go_region;have hR1:Rq c w0 l m ⟨a,[],false⟩ (w.setCell ⟨c,2,none⟩ (.int .u8 (m.toNat:Int))).drew:=(Rq.mark H m).drewN 1;have HR1:=hid hR1;obtain⟨ov1,hblk,hown⟩:=hR1.blk;clear c0 c1 c2 c3 c4 f1 f2 f3 f4;obtain⟨c0,c1,c2,c3,c4,f1,f2,f3,f4⟩:=CA hblk;simp only [] at c0 c1 c2 c3 c4;clear hblk hown hR1;generalize (w.setCell ⟨c,2,none⟩ (.int .u8 (m.toNat:Int))).drew=w1 at *;go_wp2_with fail
 go_loopg [3] l.length (fun j v3 wr=>∃ (it:Nat) (q:Qs),v3=.int .i64 (it:Int)/\it+j=l.length/\Rq c w0 l m q wr/\jC l m j it q=R/\(q.bad=false->l.length<=q.k+j)/\q.k<=l.length/\q.out.length<=4*q.k)
 case atStart=>exact⟨0,⟨a+1,[],false⟩,rfl,Cf,Rq.at_ HR1.out (a+1),HRR.out.symm,fun _=>by show _<=a+1+_;omega,by show a+1<=_;omega,Nat.zero_le _⟩
 case round =>
  obtain⟨it,⟨k,out,bad⟩,rfl,hj,HR,HQ,hf,hk,ho⟩:=hrel;simp only [] at hf hk ho;clear c0 c1 c2 c3 c4 f1 f2 f3 f4;obtain⟨ov2,hblk,hown⟩:=HR.blk;obtain⟨c0,c1,c2,c3,c4,f1,f2,f3,f4⟩:=CA hblk;simp only [] at c0 c1 c2 c3 c4;have HK:=hid (And.intro HR (And.intro HQ (And.intro hf hj)));clear hblk hown HR HQ hf hj;by_cases hkl:k < l.length
  ·have d1:decide ((k:Int) < (l.length:Int))=true:=by simpa using hkl
   cases bad with
   | true =>
    go_wp2_with fail;go_quiet (fail);go_wp2_with fail;go_ret;obtain⟨HR,HQ,_,_⟩:=HK.out;rw [aN (.inr rfl)] at HQ;rw [<- HQ];exact⟨rfl,HR.drewN _⟩
   | false =>
    have hstep:R=if decide (l[k]=m)=true then (decide (m=34)||decide (it=1),⟨k+1,out,false⟩) else if decide (m=39)=true/\decide (it=1)=true then (false,⟨k,out,false⟩) else if decide (l[k]=92)=true then jC l m (gk - 1) (it+1) (zC l m ⟨k+1,out,false⟩) else jC l m (gk - 1) (it+1) (PD l m ⟨k,out,false⟩):=by
     obtain⟨HR,HQ,hf,hj⟩:=HK.out;have hf:=hf rfl;obtain⟨j',rfl⟩:∃ j',gk=j'+1:=⟨gk - 1,Cf⟩;rw [<- HQ,jC,dif_pos hkl,if_neg Cm];simp only [decide_eq_true_eq,Nat.add_sub_cancel]
    rw [zF,zF,zF,zF,xW] at hstep;have hstep:R=if ((l[k].toNat:Int)==(m.toNat:Int))=true then (((m.toNat:Int)==34)||((it:Int)==1),⟨k+1,out,false⟩) else if ((m.toNat:Int)==39)=true/\((it:Int)==1)=true then (false,⟨k,out,false⟩) else if ((l[k].toNat:Int)==92)=true then jC l m (gk - 1) (it+1) (zC l m ⟨k+1,out,false⟩) else jC l m (gk - 1) (it+1) (PD l m ⟨k,out,false⟩):=hstep
    have hit:it<=1048576:=by have:=HK.out.2.2.2;omega
    have hw:IntKind.i64.wrap ((it:Int)+1)=(it:Int)+1:=IntWalk.i64_in _ Cf;have hgk:1<=gk:=by have:=HK.out.2.2.1 rfl;omega
    cases dm:((l[k].toNat:Int)==(m.toNat:Int)) with
    | true =>
     rw [dm,if_pos rfl] at hstep;have HS:=hid hstep;clear hstep;have hcs:((m.toNat:Int)==34)=true∨((m.toNat:Int)==34)=false/\((it:Int)==1)=true∨((m.toNat:Int)==34)=false/\((it:Int)==1)=false:=by
      cases ((m.toNat:Int)==34) <;> cases ((it:Int)==1) <;> simp
     rcases hcs with d2|⟨d2,d3⟩|⟨d2,d3⟩
     all_goals
      go_wp2_with fail;go_quiet (fail);go_wp2_with fail;generalize nq=na at *;go_quiet (fail);go_wp2_with fail;go_ret;rw [HS.out];exact⟨by simp only [d2];first|rfl|(simp only [d3];rfl),Rq.at_ (HK.out.1.drewN _) (k+1)⟩
    | false =>
     rw [dm,if_neg Cm] at hstep;have hcs:((m.toNat:Int)==39)=true/\((it:Int)==1)=true∨((m.toNat:Int)==39)=false∨((m.toNat:Int)==39)=true/\((it:Int)==1)=false:=by
      cases ((m.toNat:Int)==39) <;> cases ((it:Int)==1) <;> simp
     have hcs2:((l[k].toNat:Int)==92)=true∨((l[k].toNat:Int)==92)=false:=by cases ((l[k].toNat:Int)==92) <;> simp
     rcases hcs with ⟨d2,d3⟩|d2|⟨d2,d3⟩
     ·rw [if_pos ⟨d2,d3⟩] at hstep;have HS:=hid hstep;clear hstep hcs2;go_wp2_with fail;go_quiet (fail);go_wp2_with fail;generalize nq=na at *;go_quiet (fail);go_wp2_with fail;go_ret;rw [HS.out];exact⟨rfl,HK.out.1.drewN _⟩
     all_goals
      rw [if_neg (by simp [*])] at hstep;rcases hcs2 with d4|d4
      ·rw [if_pos d4] at hstep;have HS:=hid hstep;have HF:=hid (qG l m ⟨k+1,out,false⟩ Dv);clear hstep;go_wp2_with fail;go_quiet (fail);go_wp2_with fail;generalize nq=na at *;go_quiet (fail);go_wp2_with (go_at_call 170;refine (PP (Rq.at_ (HK.out.1.drewN (na+nq)) (k+1)) hl (by show out.length<=4*(k+1);omega)).mono ?_;rintro e w2 ⟨rfl,hR2⟩);have hHF:=HF.out;have hf:=HK.out.2.2.1 (by first|rfl|trivial);have hj:=HK.out.2.2.2
       (try simp only [] at hHF)
       go_roundg (gk - 1)
       case measure=>omega
       case rel=>exact⟨it+1,zC l m ⟨k+1,out,false⟩,Cm,Cf,hR2,HS.out.symm,fun _=>Cf,hHF.2.1,Cf⟩
      ·rw [if_neg (by simp [d4])] at hstep;have HS:=hid hstep;have HF:=hid (SG l m ⟨k,out,false⟩ hkl);clear hstep;go_wp2_with fail;go_quiet (fail);go_wp2_with fail;generalize nq=na at *;go_quiet (fail);go_wp2_with (go_at_call 171;refine (IR (HK.out.1.drewN (na+nq)) hl hkl ho (HT.out _ (HK.out.1.drewN (na+nq)).bel)).mono ?_;rintro e w2 ⟨rfl,hR2⟩);have hHF:=HF.out;have hf:=HK.out.2.2.1 (by first|rfl|trivial);have hj:=HK.out.2.2.2
       (try simp only [] at hHF)
       go_roundg (gk - 1)
       case measure=>omega
       case rel=>exact⟨it+1,PD l m ⟨k,out,false⟩,Cm,Cf,hR2,HS.out.symm,fun hb=>by have:=hHF.2.2.2 hb;omega,hHF.1,Cf⟩
  ·have d1:decide ((k:Int) < (l.length:Int))=false:=by simpa using hkl
   go_wp2_with fail;go_quiet (fail);go_wp2_with fail;go_ret;obtain⟨HR,HQ,_,_⟩:=HK.out;rw [aN (.inl hkl)] at HQ;rw [<- HQ];exact⟨rfl,HR.drewN _⟩
end
