import Derived.Test.YtjdllofmhglmiaaGreatDoorQBT
namespace Go.Proofs.YtjdllofmhglmiaaGreatDoor
open Lib(hid)
set_option linter.all false
set_option maxHeartbeats 40000000
set_option maxRecDepth 100000
namespace Ck
open Go.RowKit
variable {w w':World}
structure iX1 (P:Nat) (wf:World) (st:vH) (v:Value) (w:World):Prop where
 pairB:w.heap[P]?=some (.cells (nG st.pair).toArray 3 (0,0))
 openB:w.ownsRow (P+1) 3 1 v st.stk.length (nG (st.stk.map Int.ofNat))
 bel:Below P wf w
variable {P:Nat}{wf:World}{st:vH}{v:Value}
theorem iX1.later (h:iX1 P wf st v w) (hb:Below w.heap.size w w'):iX1 P wf st v w' :=
 ⟨(hb.block _ (lt_of_block h.pairB)).trans h.pairB,LD h.openB hb,h.bel.trans (hb.mono Js)⟩
theorem iX1.put (h:iX1 P wf st v w) (i:Nat) (x:Int):iX1 P wf ⟨st.pair.set i x,st.stk,st.most⟩ v (w.setCell (y8 P i) (i8 x)) :=
 ⟨rS h.pairB x,rA h.openB _ Cu _,h.bel.setCell (p:=(y8 P i)) (C' _) _⟩
theorem iX1.push (h:iX1 P wf st v w) {x:Value}{O:Obj}{w2:World} (i m:Nat) (hg:(w.alloc O).grownBy w2 v.ownBlock) (ho:w2.ownsRow (P+1) 3 1 x (st.stk.length+1) (nG (st.stk.map Int.ofNat)++[i8 (i:Int)])):iX1 P wf ⟨st.pair,st.stk++[i],m⟩ x w2:=by
 have hlt:=lt_of_block h.pairB;have hb:=h.bel.alloc Cs O;refine⟨(hg.block P Cv (fun e=>by have:=(h.openB.lt _ e.symm).1;omega)).trans ((Af w O P hlt).trans h.pairB),?_,hb.grown hg Cv (fun j hj=>by have:=(h.openB.lt _ hj).1;omega)⟩;simp only [List.map_append,V',Ae,Am];simpa [nG] using ho
theorem iX1.pop (h:iX1 P wf st v w) {x:Value}{O:Obj}{w2:World}{k:Nat}{xs:List Value} (m:Nat) (hg:(w.alloc O).grownBy w2 (some w.heap.size)) (ho:w2.ownsRow (P+1) 3 1 x k xs) (hk:k=st.stk.dropLast.length) (hx:xs=nG (st.stk.dropLast.map Int.ofNat)):iX1 P wf ⟨st.pair,st.stk.dropLast,m⟩ x w2:=by
 have hlt:=lt_of_block h.pairB;have hb:=h.bel.alloc Cs O;subst hk hx;exact⟨(hg.block P Cv (fun e=>by injection e with e;omega)).trans ((Af w O P hlt).trans h.pairB),ho,hb.grown hg Cv (fun j hj=>by injection hj with hj;omega)⟩
theorem NX6 {a b:Int}{i n:Nat} (h:i < n):(List.replicate i a++List.replicate (n - i) b).set i a=List.replicate (i+1) a++List.replicate (n - (i+1)) b:=by
 rw [List.set_append_right _ _ Cu];obtain⟨m,hm⟩:∃ m,n - i=m+1:=⟨n - i - 1,Cs⟩;rw [hm,show n - (i+1)=m by omega,show List.replicate (i+1) a=List.replicate i a++[a] from List.replicate_succ',List.replicate_succ];simp
theorem wX3 (s:List UInt8) (t:Tk):-3<=GX0 s t/\GX0 s t<=3:=by
 unfold GX0
 repeat' split
 all_goals omega
theorem YX3 {l:List Nat} (h:l≠[]):∃ init top,l=init++[top]/\l.getLast?.getD 0=top/\l.dropLast=init:=by
 refine⟨l.dropLast,l.getLast h,(List.dropLast_concat_getLast h).symm,?_,rfl⟩;rw [List.getLast?_eq_some_getLast h]
 rfl
theorem rnest_walk (s:List UInt8):Calls Tryz.prog 28 #[.string ⟨s.toArray⟩] w (fJ (FH s) w):=by
 have h0:=B8 w (Obj.cells #[i8 0,i8 0] 28);have hB0:=(N' w.heap.size w).alloc (C' _) (Obj.cells #[i8 0,i8 0] 28);have HA:=fun (w1:World)=>qX7 (w:=w1) s
 rw [EX5 s (fun l h t ht=>(gJ h).1 t ht)];unfold AX5;have hlt0:=lt_of_block h0;cases hA:wH s with
 | bad er a =>
  obtain⟨her,_⟩:=yN hA;rw [hA] at HA;have hne:((er:Nat):Int)≠0:=Cs
  have hne2:(((er:Nat):Int)==0)=false:=Ex
  unfold TI qA at HA
  go_in
  go_upto_region 1 with fail;generalize w.alloc (Obj.cells #[i8 0,i8 0] 28)=wA at *;go_wp2_with (go_at_call 46;refine (HA wA).mono ?_;rintro e w1 ⟨rfl,hb⟩;have k6:=(hb.block _ hlt0).trans h0;have hBw:=dA hB0 hb;clear hb);have h3:=(Af w1 (Obj.cells #[i8 (er:Int),i8 (a:Int)] 28) w.heap.size (lt_of_block k6)).trans k6;have h4:=B8 w1 (Obj.cells #[i8 (er:Int),i8 (a:Int)] 28);have hB2:=hid (hBw.alloc hBw.size (Obj.cells #[i8 (er:Int),i8 (a:Int)] 28));have HS:=hid (show w.heap.size≠w1.heap.size by have:=lt_of_block k6;omega);clear h0 hB0 k6 hBw;generalize w1.alloc (Obj.cells #[i8 (er:Int),i8 (a:Int)] 28)=w2 at *;obtain⟨c0,c1,f0,f1⟩:=tA h3;obtain⟨e0,e1,_⟩:=tA h4;have u9:=hid (VD h3 (i8 (er:Int)) (i8 (a:Int)));have HB9:=hid ((hB2.out.setCell (p:=(y8 w.heap.size 0)) (C' _) (i8 (er:Int))).setCell (p:=(y8 w.heap.size 1)) (C' _) (i8 (a:Int)));go_region
  all_goals (go_wp2_with fail)
  all_goals
   obtain⟨q0,q1,_⟩:=tA u9.out;generalize (w2.setCell (y8 w.heap.size 0) (i8 (er:Int))).setCell (y8 w.heap.size 1) (i8 (a:Int))=w9 at *;refine Ca (v:=.tuple #[.slice none 0 0,.slice none 0 0,i8 0,qA er a]) ?_ rfl ⟨rfl,HB9.out.drew⟩;simp [results,Tryz.results28,go_sem,q0,q1,qA]
 | ok l =>
  obtain⟨hfit,hlen,hs⟩:=gJ hA;rw [hA] at HA;unfold TI qA at HA
  show Calls _ _ _ _ (fJ (JX1 s l l 0 ⟨List.replicate l.length (-1),[],0⟩) w)
  obtain⟨R,hRR⟩:∃ R,R=JX1 s l l 0 ⟨List.replicate l.length (-1),[],0⟩:=⟨_,rfl⟩;rw [<- hRR];have HRR:=hid hRR;obtain⟨iI,hiI,hy0,hy1,hy2⟩:=info_parts Tryz.infoInt;clear hRR
  go_in
  go_upto_region 1 with fail;generalize w.alloc (Obj.cells #[i8 0,i8 0] 28)=wA at *;go_upto_region 4 with (go_at_call 46;refine (HA wA).mono ?_;rintro e w1 ⟨tv,rfl,hrow,hb⟩;obtain⟨va,vc,rfl⟩:=bE hrow;have k6:=(hb.block _ hlt0).trans h0;have hBw:=dA hB0 hb;clear hb);have hrf:=hrow.alloc (Obj.cells #[i8 0,i8 0] 28);have kf:=(Af w1 (Obj.cells #[i8 0,i8 0] 28) w.heap.size (lt_of_block k6)).trans k6;have hBf:=hBw.alloc hBw.size (Obj.cells #[i8 0,i8 0] 28);have hnf:=B8 w1 (Obj.cells #[i8 0,i8 0] 28);obtain⟨n0,n1,_⟩:=tA hnf;clear hrow k6 hBw h0 hB0 HA hnf;generalize w1.alloc (Obj.cells #[i8 0,i8 0] 28)=wf at *;have HC:=hid (Az hrf (Az kf hBf));have HS:=hid (show s.length<=1125899906842624 by omega);obtain⟨n,hn⟩:∃ n,n=l.length:=⟨_,rfl⟩;have HLS:=hid (show n<=131072 by omega);have HOK:=hid (show ∀ t∈l,t.fr<=t.to/\t.to<=s.length from fun t ht=>by have:=hfit t ht;exact⟨this.1,this.2.1⟩);have HWF:=hid (lt_of_block kf);have HWA:=hid hlt0;clear hrf kf hBf hfit hlen hs hA hlt0;rw [<- hn];have HN:=hid hn;clear hn;have hnn:=HLS.out;go_upto_region 5 with (at_make;refine wpList_make_full _ rfl _ _ 48 rfl wf.heap.size 3 iI _ 1 Tryz.underInts hiI hy0 hy1 .i64 .i64 _ _ n rfl rfl rfl rfl (by rw [hy2];omega) Da (C' _) ?_;intro w3 hown3 hgrow3);obtain⟨P,hP⟩:∃ P,P=wf.heap.size:=⟨_,rfl⟩;have hp8:w3.heap[P]?=some (.cells (nG (List.replicate 0 (-1)++List.replicate (n - 0) 0)).toArray 3 (0,0)):=by
   rcases hown3.2 with ⟨e1,_⟩|⟨g,cap,cur,e1,e2,e3,e4,e5,e6,e7⟩
   ·cases e1
   ·cases e1;have e8:(madeCells (i8 0).cells (n*1)).toList=nG (List.replicate n 0):=by
     show (madeCells #[i8 0] (n*1)).toList=_
     rw [toList_madeCells_one];simp [nG]
    rw [Au Ik,e8] at e7;simp only [List.replicate_zero,Ar,Nat.sub_zero];rw [hP,e3,<- e7]
  have hbel3:Below P wf w3:=(N' _ _).grown hgrow3 (by rw [hP];exact C' _) (fun j hj=>by cases hj);rw [<- hP];have HP:=hid hP;clear hgrow3 hown3 n0 n1 hP;go_wp2_with fail
  go_loopw [9] (fun u wr=>∃ i:Nat,u=i8 (i:Int)/\i<=n/\wr.heap[P]?=some (.cells (nG (List.replicate i (-1)++List.replicate (n - i) 0)).toArray 3 (0,0))/\Below P wf wr) (fun u _=>n - (intOf u).toNat)
  case atStart=>exact⟨0,rfl,Nat.zero_le _,hp8,hbel3⟩
  case round =>
   obtain⟨i,rfl,hi,hpB,hbl⟩:=hrel;clear hp8 hbel3;by_cases hlt:i < n
   ·obtain⟨x,hx⟩:∃ x,(List.replicate i (-1:Int)++List.replicate (n - i) 0)[i]?=some x:=⟨_,O' Cv⟩;obtain⟨c0,f0⟩:=uF hpB hx;have i0:(0:Int)<=(i:Int):=by omega
    have i1:(i:Int) < (n:Int):=Cs
    have hnx:=rS hpB (i:=i) (-1);rw [NX6 hlt] at hnx;have HNX:=hid (Az hnx (hbl.setCell (p:=(y8 P i)) (C' _) (i8 (-1))));have HWR:Hid (wrap64 ((i:Int)+1)=(i:Int)+1):=hid (IntWalk.wrap64_in ((i:Int)+1) ⟨Cs,Cs⟩);clear hx hpB hbl hnx;go_wp2_with fail;go_roundw
    case rel=>exact⟨i+1,Eh,Cs,HNX.out.1,HNX.out.2⟩
    case measure=>simp [intOf];omega
   ·have i1:¬ (i:Int) < (n:Int):=by omega
    have hin:i=n:=Cs
    rw [hin,Nat.sub_self,List.replicate_zero,List.append_nil] at hpB;have HPB:=hid (Az hpB hbl);clear hpB hbl hin;go_wp2_with fail
    go_loopw [10,11,12] (fun v10 v11 v12 wr=>∃ (i:Nat) (st:vH),v12=i8 (i:Int)/\i<=n/\v11=i8 (st.most:Int)/\iX1 P wf st v10 wr/\JX1 s l (l.drop i) i st=R/\st.stk.length<=100/\(∀ x∈st.stk,x < n)/\st.most<=100/\st.pair.length=n) (fun _ _ u _=>n - (intOf u).toNat)
    case atStart=>exact⟨0,⟨List.replicate n (-1),[],0⟩,rfl,Nat.zero_le _,rfl,⟨HPB.out.1,⟨rfl,.inl ⟨rfl,rfl⟩⟩,HPB.out.2⟩,by rw [HRR.out,HN.out];rfl,Cu,Cu,Cu,Cu⟩
    case round =>
     obtain⟨i,st,rfl,hi,rfl,hO,hG,hlen,hin,hmo,hpl⟩:=hrel;clear HPB;have HFF:=hid HC.out.2.1;by_cases hlt:i < n
     ·obtain⟨t,ht⟩:∃ t,l[i]?=some t:=⟨_,O' Dz⟩;obtain⟨q1,q2⟩:=HOK.out t (List.mem_of_getElem? ht);obtain⟨b,hva,hbg,hbl,_⟩:=GA HC.out.1 (lH ht).1;subst hva;have KP:=hid (show ∀ w' j u,l[j]?=some u->Below P wf w'->w'.cell? ⟨b,j*3,none⟩=some (.int .u8 (u.kind.toNat:Int))/\w'.cell? ⟨b,j*3+1,none⟩=some (i8 (u.fr:Int))/\w'.cell? ⟨b,j*3+2,none⟩=some (i8 (u.to:Int)) from fun w' j u hu hb=>by
       obtain⟨x0,x1,x2⟩:=lH hu;obtain⟨b0,e0,_,_,y0⟩:=GA HC.out.1 x0;obtain⟨b1,e1,_,_,y1⟩:=GA HC.out.1 x1;obtain⟨b2,e2,_,_,y2⟩:=GA HC.out.1 x2;cases e0;cases e1;cases e2;rw [HP.out] at hb;exact⟨aA hb y0,aA hb y1,aA hb y2⟩)
      have KF:=hid (show ∀ w',Below P wf w'->w'.heap[w.heap.size]?=some (.cells #[i8 0,i8 0] 28 (0,0)) from fun w' hb=>F8);have KB:=hid (show ∀ w',Below P wf w'->Below w.heap.size w w' from fun w' hb=>Fw);obtain⟨z0,z1,z2⟩:=KP.out _ i t ht hO.bel;have HT:=hid ht;have hdr:l.drop i=t::l.drop (i+1):=by
       exact zb7
      rw [hdr] at hG;unfold JX1 at hG;obtain⟨K,hK⟩:∃ K,K=GX0 s t:=⟨_,rfl⟩;have HK:=hid (uX3 (w:=wr) s t HS.out q1 q2);have HKR:=hid (show -3<=K/\K<=3 by rw [hK];exact wX3 s t);rw [<- hK] at hG HK;have HO:=hid hO;have HI:=hid (Az hlen (Az hin (Az hmo hpl)));have i0:(0:Int)<=(i:Int):=Cs
      have i1:(i:Int) < (n:Int):=Cs
      have HNE:=hid (show (w.heap.size:Nat)≠b by have:=HWA.out;omega);clear hO hlen hin hmo hpl ht hdr hK hbl hbg;go_wp2_with fail;refine HK.out.mono ?_;rintro e w4 ⟨rfl,hb4⟩;replace HO:=hid (HO.out.later hb4);clear hb4 HK z0 z1 z2;by_cases h0:0 < K
      ·rw [Bb h0] at hG;have h1:¬ K < 0:=by omega
       by_cases h100:100<=st.stk.length
       ·rw [Bb h100] at hG;have HG:=hid hG;obtain⟨M,hM⟩:∃ M,M=st.stk.length:=⟨_,rfl⟩;obtain⟨va,vc,rfl⟩:=bE HO.out.openB;rw [<- hM] at h100 ⊢;have d:(100:Int)<=(M:Int):=by omega
        clear hG hM h100;have hFF:=KF.out _ HO.out.bel;have HBB:=hid (KB.out _ HO.out.bel);obtain⟨_,z1,_⟩:=KP.out _ i t HT.out HO.out.bel;obtain⟨c0,c1,f0,f1⟩:=tA hFF;have HFF2:=hid hFF;clear hFF;go_upto_region 17 with fail;refine Ce (S:=fun w'=>w'.cell? ⟨b,i*3+1,none⟩=some (i8 (t.fr:Int))) Cw ?_ (fun hHeld=>?_)
        ·exact z1
        refine tn_ 0 ?_;refine tn_ 1 ?_;refine tn_ 2 ?_;refine tn_ 3 ?_;refine tn_ 4 ?_;refine tn_ 5 ?_;refine tn_ 6 ?_;refine tn_ 7 ?_;refine tn_ 8 ?_;refine Cb (rs:=[9]) Cw Cu (Cc (o:=?_) ?_ (fun Kk hKk=>?_) Cd)
        rotate_left
        ·exact Cf
        go_simp;go_wp2_with fail;refine hKk.out _ _ ?_ (fun hHeld9=>?_)
        ·exact za9
        clear hKk Kk;refine wpAnyH_done Cw ?_ _;go_wp2_with fail;have u9:=VD HFF2.out (i8 6) (i8 (t.fr:Int));have HB9:=hid ((HBB.out.setCell (p:=(y8 w.heap.size 0)) (C' _) (i8 6)).setCell (p:=(y8 w.heap.size 1)) (C' _) (i8 (t.fr:Int)));obtain⟨q0,q1,_⟩:=tA u9;rw [<- HG.out];generalize (w4.setCell (y8 w.heap.size 0) (i8 6)).setCell (y8 w.heap.size 1) (i8 (t.fr:Int))=w9 at *;refine Ca (v:=.tuple #[.slice none 0 0,.slice none 0 0,i8 0,qA 6 t.fr]) ?_ rfl ⟨rfl,HB9.out.drew⟩;simp [results,Tryz.results28,go_sem,q0,q1,qA]
       ·rw [Bc h100] at hG;obtain⟨M,hM⟩:∃ M,M=st.stk.length:=⟨_,rfl⟩;obtain⟨ga,gc,rfl⟩:=bE HO.out.openB;rw [<- hM] at h100 hG ⊢;have d:¬ (100:Int)<=(M:Int):=by omega
        have hml:=HI.out.2.2.1;have HM:=hid hM;have HOR:=HO.out.openB;rw [<- hM] at HOR;have HOR:=hid HOR;obtain⟨mo,hmo⟩:∃ mo,mo=st.most:=⟨_,rfl⟩;rw [<- hmo] at hml hG ⊢;have HMO:=hid hmo;have hmx:max (mo:Int) ((M:Int)+1)=((max mo (M+1):Nat):Int):=Cs
        have HG:=hid hG;have hpb:=HO.out.bel.size;have hpw:=lt_of_block HO.out.pairB;clear hG hM hmo;go_wp2_with (at_builtin;refine wpList_append_lies _ rfl _ _ 48 rfl (P+1) 3 iI _ 1 8 Tryz.underInts hiI hy0 hy1 hy2 rfl Ct (.slice ga M gc) M (nG (st.stk.map Int.ofNat)) rfl (HOR.out.alloc _) (y8 w4.heap.size 0) 1 1 [i8 (i:Int)] rfl rfl (At (B8 _ _)) Dq Ct Da Cs Cv _ rfl ?_;intro g6 c6 w6 hown6 hgrow6 hat6 hlt6;have HO6:=hid (show iX1 P wf ⟨st.pair,st.stk++[i],max mo (M+1)⟩ _ w6 from HO.out.push i _ (by rw [HM.out] at hgrow6;exact hgrow6) (by rw [<- HM.out];exact hown6));clear hown6 hgrow6 hat6 hlt6)
        all_goals
         go_roundw
         case rel=>exact⟨i+1,⟨st.pair,st.stk++[i],max mo (M+1)⟩,Eh,Cs,by first|rfl|rw [hmx],HO6.out,HG.out,by have:=HM.out;simp;omega,fun x hx=>(List.mem_append.1 hx).elim (HI.out.2.1 x) (fun h=>by simp at h;omega),by show max mo (M+1)<=100;omega,HI.out.2.2.2⟩
         case measure=>simp [intOf];omega
      ·rw [Bc h0] at hG;by_cases h1:K < 0
       ·rw [Bb h1] at hG;by_cases hst:st.stk=[]
        ·rw [Bb (.inl hst)] at hG;have HG:=hid hG;obtain⟨va,vc,rfl⟩:=bE HO.out.openB;have hM:st.stk.length=0:=by rw [hst];rfl
         rw [hM];clear hG hM hst;have hFF:=KF.out _ HO.out.bel;have HBB:=hid (KB.out _ HO.out.bel);obtain⟨_,z1,_⟩:=KP.out _ i t HT.out HO.out.bel;obtain⟨c0,c1,f0,f1⟩:=tA hFF;have HFF2:=hid hFF;clear hFF;go_upto_region 22 with fail;refine Ce (S:=fun w'=>w'.cell? ⟨b,i*3+1,none⟩=some (i8 (t.fr:Int))) Cw ?_ (fun hHeld=>?_)
         ·exact z1
         refine tn_ 0 ?_;refine tn_ 1 ?_;refine tn_ 2 ?_;refine tn_ 3 ?_;refine tn_ 4 ?_;refine tn_ 5 ?_;refine tn_ 6 ?_;refine tn_ 7 ?_;refine tn_ 8 ?_;refine Cb (rs:=[9]) Cw Cu (Cc (o:=?_) ?_ (fun Kk hKk=>?_) Cd)
         rotate_left
         ·exact Cf
         go_simp;go_wp2_with fail;refine hKk.out _ _ ?_ (fun hHeld9=>?_)
         ·exact za9
         clear hKk Kk;refine wpAnyH_done Cw ?_ _;go_wp2_with fail;have u9:=VD HFF2.out (i8 5) (i8 (t.fr:Int));have HB9:=hid ((HBB.out.setCell (p:=(y8 w.heap.size 0)) (C' _) (i8 5)).setCell (p:=(y8 w.heap.size 1)) (C' _) (i8 (t.fr:Int)));obtain⟨q0,q1,_⟩:=tA u9;rw [<- HG.out];generalize (w4.setCell (y8 w.heap.size 0) (i8 5)).setCell (y8 w.heap.size 1) (i8 (t.fr:Int))=w9 at *;refine Ca (v:=.tuple #[.slice none 0 0,.slice none 0 0,i8 0,qA 5 t.fr]) ?_ rfl ⟨rfl,HB9.out.drew⟩;simp [results,Tryz.results28,go_sem,q0,q1,qA]
        ·obtain⟨ini,top,e1,e2,e3⟩:=YX3 hst;have htop:top < n:=HI.out.2.1 top (by rw [e1];simp);obtain⟨u,hu⟩:∃ u,l[top]?=some u:=⟨_,O' Dz⟩;obtain⟨p1,p2⟩:=HOK.out u (List.mem_of_getElem? hu);have htp:st.top=top:=e2;have hto:eX3 l top=u:=by unfold eX3;rw [hu];rfl
         rw [htp,hto] at hG;obtain⟨K2,hK2⟩:∃ K2,K2=GX0 s u:=⟨_,rfl⟩;have hr1:=wX3 s u;have hr2:=HKR.out;have HKS:=hid (fun w=>uX3 (w:=w) s u HS.out p1 p2);rw [<- hK2] at hG HKS hr1;have HKT:=hid (show -6<=K2+K/\K2+K<=6 by omega);obtain⟨m,hm⟩:∃ m,m=ini.length:=⟨_,rfl⟩;obtain⟨M,hM⟩:∃ M,M=st.stk.length:=⟨_,rfl⟩;have hMm:M=m+1:=by rw [hM,e1,hm];simp
         have hml:=HI.out.1;rw [<- hM] at hml;have hwm:IntKind.i64.wrap ((M:Int) - 1)=(m:Int):=Cy
         have hM0:((M:Int)==0)=false:=by rw [Bi];omega
         have HOR:=HO.out.openB;rw [<- hM] at HOR;obtain⟨ga,gc,rfl⟩:=bE HOR;have hx:(nG (st.stk.map Int.ofNat))[m]?=some (i8 (top:Int)):=by rw [e1,hm];simp [nG]
         obtain⟨g,hga,hgg,hgl,y0⟩:=GA HOR hx;subst hga;have j0:(0:Int)<=(m:Int):=Cs
         have j1:(m:Int) < (M:Int):=Cs
         have k0:(0:Int)<=(top:Int):=Cs
         have k1:(top:Int) < (n:Int):=Cs
         obtain⟨a0,a1,a2⟩:=KP.out _ top u hu HO.out.bel;have hMM:=Az hM (Az hMm (Az hm (Az e1 (Az e3 hu))));have HM:=hid hMM;have HX:=hid hx;have HSN:=hid hst;have j2:(m:Int)<=(gc:Int):=by rcases HOR.2 with ⟨h,_⟩|⟨_,_,_,h,_,_,h2,_⟩;cases h;cases h;omega
         clear hr1 hr2 hK2 hm hM hMm e1 e2 e3 hu htp hto p1 p2 hx hMM HOR hst;go_wp2_with fail;refine (HKS.out _).mono ?_;rintro e w5 ⟨rfl,hb5⟩;have y5:=aA hb5 y0;replace HO:=hid (HO.out.later hb5);clear hb5 a0 a1 a2 y0;have hsum:=wrap_id (K2+K) (by have:=HKT.out;omega) (by have:=HKT.out;omega);by_cases hne:K2+K≠0
         ·rw [Bb (.inr hne)] at hG;have HG:=hid hG;have d:(K2+K != 0)=true:=by simpa using hne
          clear hne;clear hG;have hFF:=KF.out _ HO.out.bel;have HBB:=hid (KB.out _ HO.out.bel);obtain⟨_,z1,_⟩:=KP.out _ i t HT.out HO.out.bel;obtain⟨c0,c1,f0,f1⟩:=tA hFF;have HFF2:=hid hFF;clear hFF;go_upto_region 22 with fail;refine Ce (S:=fun w'=>w'.cell? ⟨b,i*3+1,none⟩=some (i8 (t.fr:Int))) Cw ?_ (fun hHeld=>?_)
          ·exact z1
          refine tn_ 0 ?_;refine tn_ 1 ?_;refine tn_ 2 ?_;refine tn_ 3 ?_;refine tn_ 4 ?_;refine tn_ 5 ?_;refine tn_ 6 ?_;refine tn_ 7 ?_;refine tn_ 8 ?_;refine Cb (rs:=[9]) Cw Cu (Cc (o:=?_) ?_ (fun Kk hKk=>?_) Cd)
          rotate_left
          ·exact Cf
          go_simp;go_wp2_with fail;refine hKk.out _ _ ?_ (fun hHeld9=>?_)
          ·exact za9
          clear hKk Kk;refine wpAnyH_done Cw ?_ _;go_wp2_with fail;have u9:=VD HFF2.out (i8 5) (i8 (t.fr:Int));have HB9:=hid ((HBB.out.setCell (p:=(y8 w.heap.size 0)) (C' _) (i8 5)).setCell (p:=(y8 w.heap.size 1)) (C' _) (i8 (t.fr:Int)));obtain⟨q0,q1,_⟩:=tA u9;rw [<- HG.out];generalize (w5.setCell (y8 w.heap.size 0) (i8 5)).setCell (y8 w.heap.size 1) (i8 (t.fr:Int))=w9 at *;refine Ca (v:=.tuple #[.slice none 0 0,.slice none 0 0,i8 0,qA 5 t.fr]) ?_ rfl ⟨rfl,HB9.out.drew⟩;simp [results,Tryz.results28,go_sem,q0,q1,qA]
         ·rw [Bc (fun e=>e.elim HSN.out hne)] at hG;have HG:=hid hG;have d:(K2+K != 0)=false:=by simpa using hne
          clear hne hG;have HIN:=hid (show ∀ (w':World) (j:Nat) (v:Value),w'.ownsRow (P+1) 3 1 (.slice (some (y8 g 0)) M gc) M (nG (st.stk.map Int.ofNat))->(nG (ini.map Int.ofNat))[j]?=some v->w'.cell? (((y8 g 0):Addr).add j)=some v from fun w' j v ho hv=>by
           have hj:(nG (st.stk.map Int.ofNat))[j]?=some v:=by
            rw [HM.out.2.2.2.1];have hl:j < (nG (ini.map Int.ofNat)).length:=(Al.1 hv).1;simp only [nG,List.map_append] at hv hl ⊢;rw [List.getElem?_append_left hl];exact hv
           obtain⟨g2,h1,_,_,h2⟩:=GA ho hj;cases h1;have he:(((y8 g 0):Addr).add j)=(y8 g j):=by
            exact zer
           rw [he];exact h2)
          have HOR2:=hid (show w5.ownsRow (P+1) 3 1 (.slice (some (y8 g 0)) M gc) M (nG (st.stk.map Int.ofNat)) from by have:=HO.out.openB;rw [<- HM.out.1] at this;exact this);have hpb:=HO.out.bel.size;have hpw:=lt_of_block HO.out.pairB;have hm1:=hml;obtain⟨x1,hx1⟩:∃ x,st.pair[i]?=some x:=⟨_,O' (by have:=HI.out.2.2.2;omega)⟩;obtain⟨x2,hx2⟩:∃ x,(st.pair.set i (top:Int))[top]?=some x:=⟨_,O' (by have:=HI.out.2.2.2;simp;omega)⟩;have HX1:=hid hx1;have HX2:=hid hx2;clear hx1 hx2;have HE:=hid (show (w5.alloc (Obj.cells #[] 3)).ownsRow (P+1) 3 1 (.slice (some (y8 w5.heap.size 0)) 0 0) 0 [] from ⟨rfl,.inr ⟨w5.heap.size,0,#[],rfl,Cs,B8 w5 _,C' _,Da,rfl,rfl⟩⟩);go_wp2_with (at_builtin;refine wpList_append_own_at _ rfl _ _ 48 rfl (P+1) 3 iI _ 1 8 Tryz.underInts hiI hy0 hy1 hy2 rfl Ct (.slice (some ⟨w5.heap.size,0,none⟩) 0 0) 0 [] rfl HE.out ⟨g,0,none⟩ m gc (nG (ini.map Int.ofNat)) rfl (by rw [HM.out.2.2.1];simp [nG]) (fun j v hv=>HIN.out _ j v (HOR2.out.alloc _) hv) (fun v hv=>by simp only [nG,List.mem_map] at hv;obtain⟨x,_,rfl⟩:=hv;rfl) Da Cs Cv ?_;intro v6 w6 hown6 hgrow6 hnil6 hat6;have HO6:=hid (HO.out.pop (k:=0+m) st.most hgrow6 hown6 (by rw [HM.out.2.2.2.2.1,HM.out.2.2.1];omega) (by rw [HM.out.2.2.2.2.1];rfl));clear hown6 hgrow6 hnil6 hat6;obtain⟨b0,b1⟩:=uF HO6.out.pairB HX1.out;have HO7:=hid (HO6.out.put i (top:Int));obtain⟨b2,b3⟩:=uF HO7.out.pairB HX2.out);have HO8:=hid (HO7.out.put top (i:Int));go_roundw
          case rel=>exact⟨i+1,⟨(st.pair.set i (top:Int)).set top (i:Int),st.stk.dropLast,st.most⟩,Eh,Cs,rfl,HO8.out,HG.out,by have:=HI.out.1;simp;omega,fun x hx=>HI.out.2.1 x (List.dropLast_subset _ hx),HI.out.2.2.1,by simp;exact HI.out.2.2.2⟩
          case measure=>simp [intOf];omega
       ·rw [Bc h1] at hG;have HG:=hid hG;clear hG;go_wp2_with fail;go_roundw
        case rel=>exact⟨i+1,st,Eh,Cs,rfl,HO.out,HG.out,HI.out.1,HI.out.2⟩
        case measure=>simp [intOf];omega
     ·have hie:i=n:=by omega
      rw [hie,HN.out,List.drop_length] at hG;unfold JX1 at hG;have i1:¬ (i:Int) < (n:Int):=Cs
      have HI:=hid (Az hlen (Az hin (Az hmo hpl)));clear hlen hin hmo hpl hie;by_cases hst:st.stk=[]
      ·rw [Bb hst] at hG;have HG:=hid hG;have hM:st.stk.length=0:=by rw [hst];rfl
       obtain⟨va2,vc2,rfl⟩:=bE hO.openB;rw [hM];have hbl:=hO.bel;have hpz:=hO.pairB;rw [HP.out] at hbl;have kF:=(hbl.block w.heap.size HWF.out).trans HC.out.2.1;obtain⟨c0,c1,f0,f1⟩:=tA kF;have HT:=hid (LD HC.out.1 hbl);have HBB:=hid (HC.out.2.2.trans (hbl.mono HC.out.2.2.size));have HPZ:=hid (show wr.ownsRow P 3 1 (.slice (some (y8 P 0)) n n) n (nG st.pair) from ⟨Jo,.inr ⟨P,n,(nG st.pair).toArray,rfl,C' _,hpz,C' _,by have:=HLS.out;unfold maxLen;omega,Jo,by rw [Au Jo]⟩⟩);have HPN:=hid (show P≠w.heap.size by have:=HWF.out;rw [HP.out];omega);clear hG hM hO hbl hpz;go_wp2_with fail;have u9:=VD kF (i8 0) (i8 0);have HB9:=hid ((HBB.out.setCell (p:=(y8 w.heap.size 0)) (C' _) (i8 0)).setCell (p:=(y8 w.heap.size 1)) (C' _) (i8 0));have HT9:=hid (rA (rA HT.out (y8 w.heap.size 0) (by have:=HWA.out;simp;omega) (i8 0)) (y8 w.heap.size 1) (by have:=HWA.out;simp;omega) (i8 0));have HP9:=hid (rA (rA HPZ.out (y8 w.heap.size 0) Ip (i8 0)) (y8 w.heap.size 1) Ip (i8 0));have HT8:=hid (jE (base2:=w.heap.size) HT9.out (by have:=HWA.out;exact Nat.le_of_lt this));have HP8:=hid (jE (base2:=w.heap.size) HP9.out (by have:=HWF.out;have:=HP.out;omega));rw [<- HN.out] at HT8;obtain⟨q0,q1,_⟩:=tA u9;rw [<- HG.out];generalize (wr.setCell (y8 w.heap.size 0) (i8 0)).setCell (y8 w.heap.size 1) (i8 0)=w9 at *;refine Ca (v:=.tuple #[.slice va n vc,.slice (some (y8 P 0)) n n,i8 (st.most:Int),qA 0 0]) ?_ rfl ⟨_,_,rfl,by rw [<- HN.out];exact HT8.out,by rw [HI.out.2.2.2];exact HP8.out,HB9.out⟩;simp [results,Tryz.results28,go_sem,q0,q1,qA]
      ·rw [Bc hst] at hG;have HG:=hid hG;obtain⟨ini,top,e1,e2,e3⟩:=YX3 hst;have htop:top < n:=HI.out.2.1 top (by rw [e1];simp);obtain⟨u,hu⟩:∃ u,l[top]?=some u:=⟨_,O' Dz⟩;have htk:vQ l st.top=u.fr:=by unfold vQ vH.top;rw [e2,hu];rfl
       rw [htk] at HG;obtain⟨b,hva,hbg,hbl,_⟩:=GA HC.out.1 (lH hu).1;subst hva;have KP:=hid (show ∀ w' j u,l[j]?=some u->Below P wf w'->w'.cell? ⟨b,j*3,none⟩=some (.int .u8 (u.kind.toNat:Int))/\w'.cell? ⟨b,j*3+1,none⟩=some (i8 (u.fr:Int))/\w'.cell? ⟨b,j*3+2,none⟩=some (i8 (u.to:Int)) from fun w' j u hu hb=>by
        obtain⟨x0,x1,x2⟩:=lH hu;obtain⟨b0,e0,_,_,y0⟩:=GA HC.out.1 x0;obtain⟨b1,e1,_,_,y1⟩:=GA HC.out.1 x1;obtain⟨b2,e2,_,_,y2⟩:=GA HC.out.1 x2;cases e0;cases e1;cases e2;rw [HP.out] at hb;exact⟨aA hb y0,aA hb y1,aA hb y2⟩)
       have KF:=hid (show ∀ w',Below P wf w'->w'.heap[w.heap.size]?=some (.cells #[i8 0,i8 0] 28 (0,0)) from fun w' hb=>F8);have KB:=hid (show ∀ w',Below P wf w'->Below w.heap.size w w' from fun w' hb=>Fw);obtain⟨m,hm⟩:∃ m,m=ini.length:=⟨_,rfl⟩;obtain⟨M,hM⟩:∃ M,M=st.stk.length:=⟨_,rfl⟩;have hMm:M=m+1:=by rw [hM,e1,hm];simp
       have hml:=HI.out.1;rw [<- hM] at hml;have hwm:IntKind.i64.wrap ((M:Int) - 1)=(m:Int):=Cy
       have HOR:=hO.openB;rw [<- hM] at HOR;obtain⟨ga,gc,rfl⟩:=bE HOR;have hx:(nG (st.stk.map Int.ofNat))[m]?=some (i8 (top:Int)):=by rw [e1,hm];simp [nG]
       obtain⟨g,hga,hgg,hgl,y0⟩:=GA HOR hx;subst hga;have j0:(0:Int)<=(m:Int):=Cs
       have j1:(m:Int) < (M:Int):=Cs
       have j3:(0:Int) < (M:Int):=Cs
       have k0:(0:Int)<=(top:Int):=Cs
       have k1:(top:Int) < (n:Int):=Cs
       have HNE:=hid (show (w.heap.size:Nat)≠b by have:=HWA.out;omega);have HNG:=hid (show (w.heap.size:Nat)≠g by have:=HWF.out;have:=HP.out;omega);have hFF:=KF.out _ hO.bel;have HBB:=hid (KB.out _ hO.bel);obtain⟨_,z1,_⟩:=KP.out _ top u hu hO.bel;obtain⟨c0,c1,f0,f1⟩:=tA hFF;have HFF2:=hid hFF;clear hFF hG hst e1 e2 e3 htop hu htk hm hM hMm hml HOR hx hO hgg hgl;go_upto_region 28 with fail;refine Ce (S:=fun w'=>w'.cell? (y8 g m)=some (i8 (top:Int))/\w'.cell? ⟨b,top*3+1,none⟩=some (i8 (u.fr:Int))) Cw ?_ (fun hHeld=>?_)
       ·exact⟨y0,z1⟩
       refine tn_ 0 ?_;refine tn_ 1 ?_;refine tn_ 2 ?_;refine tn_ 3 ?_;refine tn_ 4 ?_;refine tn_ 5 ?_;refine tn_ 6 ?_;refine tn_ 7 ?_;refine tn_ 8 ?_;refine tn_ 9 ?_;refine tn_ 10 ?_;refine tn_ 11 ?_;refine tn_ 12 ?_;refine tn_ 13 ?_;refine Cb (rs:=[14]) Cw Cu (Cc (o:=?_) ?_ (fun Kk hKk=>?_) Cd)
       rotate_left
       ·exact Cf
       go_simp;go_wp2_with fail;refine hKk.out _ _ ?_ (fun hHeld9=>?_)
       ·exact⟨(World.cell?_setCell_far _ (y8 w.heap.size 1) (y8 g m) _ HNG.out).trans ((World.cell?_setCell_far _ (y8 w.heap.size 0) (y8 g m) _ HNG.out).trans y0),(World.cell?_setCell_far _ (y8 w.heap.size 1) ⟨b,top*3+1,none⟩ _ HNE.out).trans ((World.cell?_setCell_far _ (y8 w.heap.size 0) ⟨b,top*3+1,none⟩ _ HNE.out).trans z1)⟩
       clear hKk Kk;refine wpAnyH_done Cw ?_ _;go_wp2_with fail;have u9:=VD HFF2.out (i8 5) (i8 (u.fr:Int));have HB9:=hid ((HBB.out.setCell (p:=(y8 w.heap.size 0)) (C' _) (i8 5)).setCell (p:=(y8 w.heap.size 1)) (C' _) (i8 (u.fr:Int)));obtain⟨q0,q1,_⟩:=tA u9;rw [<- HG.out];generalize (wr.setCell (y8 w.heap.size 0) (i8 5)).setCell (y8 w.heap.size 1) (i8 (u.fr:Int))=w9 at *;refine Ca (v:=.tuple #[.slice none 0 0,.slice none 0 0,i8 0,qA 5 u.fr]) ?_ rfl ⟨rfl,HB9.out.drew⟩;simp [results,Tryz.results28,go_sem,q0,q1,qA]
end Ck
