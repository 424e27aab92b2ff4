import Derived.Test.YtjdllofmhglmiaaGreatDoorQAL
namespace Go.Proofs.YtjdllofmhglmiaaGreatDoor
open Lib(hid)
set_option linter.all false
set_option maxHeartbeats 40000000
set_option maxRecDepth 100000
section
open Go.RowKit
variable {w:World}
theorem uF {b i:Nat}{p:List Int}{T:TypeId} (h:w.heap[b]?=some (.cells (nG p).toArray T (0,0))) {x:Int} (hx:p[i]?=some x):w.cell? (y8 b i)=some (i8 x)/\w.frozen? (y8 b i)=false:=by
 constructor
 ·unfold World.cell?;rw [h];simp [nG,hx]
 ·unfold World.frozen?;rw [h];simp
theorem rS {b i:Nat}{p:List Int}{T:TypeId} (h:w.heap[b]?=some (.cells (nG p).toArray T (0,0))) (x:Int):(w.setCell (y8 b i) (i8 x)).heap[b]?=some (.cells (nG (p.set i x)).toArray T (0,0)):=by
 rw [heap_setCell_same w b i _ _ _ h];simp [nG,List.map_set]
structure lE (b8 b9:Nat) (wB:World) (st:vH) (w:World):Prop where
 lt:b8 < b9
 pairB:w.heap[b8]?=some (.cells (nG st.pair).toArray 3 (0,0))
 openB:∃ cs:List Int,cs.length=100/\w.heap[b9]?=some (.cells (nG cs).toArray 95 (0,0))/\∀ (j x:Nat),st.stk[j]?=some x->cs[j]?=some (x:Int)
 bel:Below b8 wB w
variable {b8 b9:Nat}{wB:World}{st:vH}
theorem lE.later {w':World} (h:lE b8 b9 wB st w) (hb:Below w.heap.size w w'):lE b8 b9 wB st w':=by
 obtain⟨cs,h1,h2,h3⟩:=h.openB;exact⟨h.lt,(hb.block _ (lt_of_block h.pairB)).trans h.pairB,⟨cs,h1,(hb.block _ (lt_of_block h2)).trans h2,h3⟩,h.bel.trans (hb.mono Js)⟩
theorem lE.put (h:lE b8 b9 wB st w) (i:Nat) (x:Int):lE b8 b9 wB ⟨st.pair.set i x,st.stk,st.most⟩ (w.setCell (y8 b8 i) (i8 x)):=by
 obtain⟨cs,h1,h2,h3⟩:=h.openB;have:=h.lt;exact⟨h.lt,rS h.pairB x,⟨cs,h1,by rw [Ah _ _ _ _ Cv];exact h2,h3⟩,h.bel.setCell (p:=(y8 b8 i)) (C' _) _⟩
theorem lE.push (h:lE b8 b9 wB st w) (i m:Nat) (hn:st.stk.length < 100):lE b8 b9 wB ⟨st.pair,st.stk++[i],m⟩ (w.setCell ⟨b9,st.stk.length,none⟩ (i8 (i:Int))):=by
 obtain⟨cs,h1,h2,h3⟩:=h.openB;have:=h.lt;refine⟨h.lt,by rw [Ah _ _ _ _ Cv];exact h.pairB,⟨cs.set st.stk.length (i:Int),Ea,rS h2 _,fun j x hx=>?_⟩,h.bel.setCell (p:=⟨b9,st.stk.length,none⟩) Cv _⟩;rw [List.getElem?_append] at hx;split at hx
 ·rename_i hj;rw [List.getElem?_set_ne Cs];exact h3 j x hx
 ·rename_i hj;have hjz:j - st.stk.length=0:=by
   have:=(Al.1 hx).1;simp at this;omega
  rw [hjz] at hx;cases hx;have hje:j=st.stk.length:=Cs
  rw [hje,List.getElem?_set_self Cs]
theorem lE.pop (h:lE b8 b9 wB st w) (p:List Int) (m:Nat) (hp:p=st.pair):lE b8 b9 wB ⟨p,st.stk.dropLast,m⟩ w:=by
 obtain⟨cs,h1,h2,h3⟩:=h.openB;subst hp;refine⟨h.lt,h.pairB,⟨cs,h1,h2,fun j x hx=>h3 j x ?_⟩,h.bel⟩;rw [List.dropLast_eq_take,List.getElem?_take] at hx;split at hx
 ·exact hx
 ·cases hx
theorem BR (s:List UInt8) (hT:NC w):Calls Tryz.prog 37 #[.string ⟨s.toArray⟩] w (fJ (FH s) w):=by
 have h0:=B8 w (Obj.cells #[i8 0,i8 0] 28);have hB0:=(N' w.heap.size w).alloc (C' _) (Obj.cells #[i8 0,i8 0] 28);have HA:=fun (w1:World) h=>DT (w:=w1) s h
 have HT:=hid hT;clear hT;have hR:FH s=match wH s with
  | .bad e a=>.bad e a
  | .ok l=>rF s l l 0 ⟨List.replicate l.length 0,[],0⟩:=rfl
 rw [hR];clear hR;have hlt0:=lt_of_block h0;cases hA:wH s with
 | bad er a =>
  obtain⟨her,_⟩:=yN hA;rw [hA] at HA;have hne:((er:Nat):Int)≠0:=Cs
  have hne2:(((er:Nat):Int)==0)=false:=Ex
  unfold TI qA at HA
  go_in
  go_upto_region 1 with fail;generalize w.alloc (Obj.cells #[i8 0,i8 0] 28)=wA at *;go_wp2_with (go_at_call 67;refine (HA wA (HT.out.below hB0)).mono ?_;rintro e w1 ⟨rfl,hb⟩;have k6:=(hb.block _ hlt0).trans h0;have hBw:=dA hB0 hb;clear hb);have h3:=(Af w1 (Obj.cells #[i8 (er:Int),i8 (a:Int)] 28) w.heap.size (lt_of_block k6)).trans k6;have h4:=B8 w1 (Obj.cells #[i8 (er:Int),i8 (a:Int)] 28);have hB2:=hid (hBw.alloc hBw.size (Obj.cells #[i8 (er:Int),i8 (a:Int)] 28));have HS:=hid (show w.heap.size≠w1.heap.size by have:=lt_of_block k6;omega);clear h0 hB0 k6 hBw;generalize w1.alloc (Obj.cells #[i8 (er:Int),i8 (a:Int)] 28)=w2 at *;obtain⟨c0,c1,f0,f1⟩:=tA h3;obtain⟨e0,e1,_⟩:=tA h4;have u9:=hid (VD h3 (i8 (er:Int)) (i8 (a:Int)));have HB9:=hid ((hB2.out.setCell (p:=(y8 w.heap.size 0)) (C' _) (i8 (er:Int))).setCell (p:=(y8 w.heap.size 1)) (C' _) (i8 (a:Int)));go_region
  all_goals (go_wp2_with fail)
  all_goals
   obtain⟨q0,q1,_⟩:=tA u9.out;generalize (w2.setCell (y8 w.heap.size 0) (i8 (er:Int))).setCell (y8 w.heap.size 1) (i8 (a:Int))=w9 at *;refine Ca (v:=.tuple #[.slice none 0 0,.slice none 0 0,i8 0,qA er a]) ?_ rfl ⟨rfl,HB9.out.drew⟩;simp [results,Tryz.results37,go_sem,q0,q1,qA]
 | ok l =>
  obtain⟨hfit,hlen,hs⟩:=gJ hA;rw [hA] at HA;unfold TI qA at HA
  show Calls _ _ _ _ (fJ (rF s l l 0 ⟨List.replicate l.length 0,[],0⟩) w)
  obtain⟨R,hRR⟩:∃ R,R=rF s l l 0 ⟨List.replicate l.length 0,[],0⟩:=⟨_,rfl⟩;rw [<- hRR];have HRR:=hid hRR;obtain⟨iI,hiI,hy0,hy1,hy2⟩:=info_parts Tryz.infoInt;obtain⟨hzv,hzi⟩:=zero_of_info Tryz.infoArr;clear hRR
  go_in
  go_upto_region 1 with fail;generalize w.alloc (Obj.cells #[i8 0,i8 0] 28)=wA at *;go_wp2_with (first|(go_at_call 67;refine (HA wA (HT.out.below hB0)).mono ?_;rintro e w1 ⟨tv,rfl,hrow,hb⟩;obtain⟨va,vc,rfl⟩:=bE hrow;have k6:=(hb.block _ hlt0).trans h0;have hBw:=dA hB0 hb;clear hb)|(refine wpList_make_full _ rfl _ _ 48 rfl w.heap.size 3 iI _ 1 Tryz.underInts hiI hy0 hy1 .i64 .i64 _ _ l.length rfl rfl rfl rfl (by rw [hy2];omega) Da (by simp;have:=hBw.size;omega) ?_;intro w3 hown3 hgrow3));have hbase:=hBw.size;have hltF:=lt_of_block k6;have hs1:(w1.alloc (Obj.cells #[i8 0,i8 0] 28)).heap.size=w1.heap.size+1:=Cu
  have hp8:w3.heap[w1.heap.size+1]?=some (.cells (nG (List.replicate l.length 0)).toArray 3 (0,0)):=by
   rcases hown3.2 with ⟨e1,_⟩|⟨g,cap,cur,e1,e2,e3,e4,e5,e6,e7⟩
   ·cases e1
   ·cases e1;have e8:(madeCells (i8 0).cells (l.length*1)).toList=nG (List.replicate l.length 0):=by
     show (madeCells #[i8 0] (l.length*1)).toList=_
     rw [toList_madeCells_one];simp [nG]
    rw [Au Ik,e8] at e7;rw [<- hs1,e3,<- e7]
  have hb8:=lt_of_block hp8;have hbel3:Below (w1.heap.size+1) (w1.alloc (Obj.cells #[i8 0,i8 0] 28)) w3:=(N' _ _).grown hgrow3 (by rw [hs1];exact C' _) (fun j hj=>by cases hj);have hM0:lE (w1.heap.size+1) w3.heap.size (w1.alloc (Obj.cells #[i8 0,i8 0] 28)) ⟨List.replicate l.length 0,[],0⟩ (w3.alloc (Obj.cells (Array.replicate 100 (i8 0)) 95)):=by
   refine⟨hb8,(Af _ _ _ hb8).trans hp8,⟨List.replicate 100 0,Cu,?_,fun j x hx=>by simp at hx⟩,hbel3.alloc Cs _⟩;have:=B8 w3 (Obj.cells (Array.replicate 100 (i8 0)) 95);have e:(nG (List.replicate 100 0)).toArray=Array.replicate 100 (i8 0):=by rw [nG,List.map_replicate,List.toArray_replicate]
   rw [e];exact this
  have HC:=hid (Az hrow (Az k6 hBw));have HL0:=hid hlt0;clear hrow k6 hBw h0 hB0 hlt0 HT HA hown3 hgrow3 hp8 hbel3
  go_loopg [10,11,29] l.length (fun j v10 v11 v29 wr=>∃ (i:Nat) (pair:List Int) (stk:List Nat) (most:Nat),v10=i8 (stk.length:Int)/\v11=i8 (most:Int)/\v29=i8 (i:Int)/\i+j=l.length/\lE (w1.heap.size+1) w3.heap.size (w1.alloc (Obj.cells #[i8 0,i8 0] 28)) ⟨pair,stk,most⟩ wr/\rF s l (l.drop i) i ⟨pair,stk,most⟩=R/\pair.length=l.length/\stk.length<=100/\most<=100/\(∀ x∈stk,x < i/\∃ u,l[x]?=some u/\u.fr < s.length))
  case atStart=>exact⟨0,List.replicate l.length 0,[],0,rfl,rfl,rfl,Cs,hM0,HRR.out.symm,Cu,Ct,Ct,fun x hx=>by cases hx⟩
  case round =>
   obtain⟨i,pair,stk,most,rfl,rfl,rfl,hj,hS,hF,hpl,hsl,hml,hst⟩:=hrel;by_cases hi:i < l.length
   ·have d0:decide ((i:Int) < (l.length:Int))=true:=by simpa using hi
    obtain⟨t,ht⟩:∃ t,l[i]?=some t:=⟨l[i],O' hi⟩;obtain⟨hf1,hf2,hf3⟩:=hfit t (List.mem_of_getElem? ht);obtain⟨x0,x1,x2⟩:=lH ht;obtain⟨b,hva,_,hbl,y0⟩:=GA HC.out.1 x0;obtain⟨b',e',_,_,y1⟩:=GA HC.out.1 x1;obtain⟨b'',e'',_,_,y2⟩:=GA HC.out.1 x2;subst hva;cases e';cases e'';have kq:∀ (w9:World) st,lE (w1.heap.size+1) w3.heap.size (w1.alloc (Obj.cells #[i8 0,i8 0] 28)) st w9->∀ o v,w1.cell? (y8 b o)=some v->w9.cell? (y8 b o)=some v:=fun w9 st h9 o v h=>(h9.bel.cell (p:=(y8 b o)) Cv).trans ((((N' w1.heap.size w1).alloc (C' _) (Obj.cells #[i8 0,i8 0] 28)).cell (p:=(y8 b o)) hbl).trans h)
    have z0:=kq _ _ hS _ _ y0;have z1:=kq _ _ hS _ _ y1;have z2:=kq _ _ hS _ _ y2;have hdr:l.drop i=t::l.drop (i+1):=by
     have ht2:=ht;rw [O' hi] at ht2;cases ht2;exact Aq hi
    rw [hdr,rF] at hF;have hl8:=lt_of_block hS.pairB;have hS4:=hS.later ((N' wr.heap.size wr).alloc (C' _) (Obj.cells #[.int .u8 (t.kind.toNat:Int),i8 (t.fr:Int),i8 (t.to:Int)] 56));obtain⟨px,hpx⟩:∃ x,pair[i]?=some x:=⟨pair[i],O' Cs⟩;obtain⟨cp,fp⟩:=uF hS4.pairB hpx;have hS5:lE (w1.heap.size+1) w3.heap.size (w1.alloc (Obj.cells #[i8 0,i8 0] 28)) ⟨pair.set i (-1),stk,most⟩ ((wr.setCell (y8 (w1.heap.size+1) i) (i8 (-1))).alloc (Obj.cells #[.int .u8 (t.kind.toNat:Int),i8 (t.fr:Int),i8 (t.to:Int)] 56)):=(hS.put i (-1)).later ((N' _ _).alloc (C' _) _);have hk5:((wr.setCell (y8 (w1.heap.size+1) i) (i8 (-1))).alloc (Obj.cells #[.int .u8 (t.kind.toNat:Int),i8 (t.fr:Int),i8 (t.to:Int)] 56)).heap[wr.heap.size]?=some (.cells #[.int .u8 (t.kind.toNat:Int),i8 (t.fr:Int),i8 (t.to:Int)] 56 (0,0)):=by have:=B8 (wr.setCell (y8 (w1.heap.size+1) i) (i8 (-1))) (Obj.cells #[.int .u8 (t.kind.toNat:Int),i8 (t.fr:Int),i8 (t.to:Int)] 56);simpa using this
    obtain⟨t0,t1,t2,_⟩:=uA hk5;have hwf:IntKind.i64.wrap ((t.to:Int) - (t.fr:Int))=(t.to:Int) - (t.fr:Int):=IntWalk.i64_in _ Cs;simp only [] at hF;have hst2:∀ x∈stk,x < i+1/\∃ u,l[x]?=some u/\u.fr < s.length:=fun x hx=>⟨by have:=(hst x hx).1;omega,(hst x hx).2⟩
    have HQ:=hid (Az kq (Az hst hfit));have HS5:=hid hS5;have HK5:=hid hk5;clear x0 x1 x2 hdr hS hS4 hk5 kq hst hfit hS5;by_cases hN:t.kind≠8∨t.to - t.fr≠1
    ·rw [Bb hN] at hF;have hcs:((t.kind.toNat:Int) != 8)=true∨((t.kind.toNat:Int) != 8)=false/\((t.to:Int) - (t.fr:Int) != 1)=true:=by
      by_cases h8:t.kind=8
      ·right
       have h9:=hN.resolve_left (fun h=>h h8);have h10:=hf3 h8;rw [h8];exact⟨rfl,Cv⟩
      ·left
       have:=zF t.kind 8;rw [decide_eq_false h8] at this
       show (!((t.kind.toNat:Int)==8))=true
       have e:((t.kind.toNat:Int)==8)=false:=this.symm;rw [e];rfl
     have HF:=hid hF;clear hF hN;rcases hcs with d1|⟨d1,d2⟩
     all_goals
      go_wp2_with fail;go_roundg (gk - 1)
      case measure=>omega
      case rel=>exact⟨i+1,pair.set i (-1),stk,most,rfl,rfl,Cu,Cs,HS5.out,HF.out,Ix,hsl,hml,hst2⟩
    ·rw [Bc hN] at hF;have hk8:t.kind=8:=Classical.byContradiction fun h=>hN (.inl h)
     have hk1:t.to - t.fr=1:=Classical.byContradiction fun h=>hN (.inr h)
     have hfr:t.fr < s.length:=by have:=hf3 hk8;omega
     have d1:((t.kind.toNat:Int) != 8)=false:=by rw [hk8];rfl
     have d2:((t.to:Int) - (t.fr:Int) != 1)=false:=Cv
     have hfr2:(t.fr:Int) < (s.length:Int):=Cs
     have hby:sG s t.fr=s[t.fr]:=by unfold sG;rw [O' hfr];rfl
     rw [hby] at hF;have hPW:=fun w=>BJ (w:=w) s[t.fr]
     obtain⟨p,hp⟩:∃ p,p=XK s[t.fr]:=⟨_,rfl⟩;rw [<- hp] at hPW hF;have hbe:∀ (x y:UInt8),¬ x=y->((x.toNat:Int)==(y.toNat:Int))=false:=fun x y h=>by
      rw [<- zF];exact decide_eq_false h
     clear hN hp hby hk8 hk1;by_cases hp0:p=0
     ·rw [Bc (fun h=>h hp0)] at hF;have d3:((p.toNat:Int) != 0)=false:=by rw [hp0];rfl
      by_cases hcl:s[t.fr]=41∨s[t.fr]=93∨s[t.fr]=125
      ·rw [Bb hcl] at hF;have hcs:((s[t.fr].toNat:Int)==41)=true∨((s[t.fr].toNat:Int)==41)=false/\((s[t.fr].toNat:Int)==93)=true∨((s[t.fr].toNat:Int)==41)=false/\((s[t.fr].toNat:Int)==93)=false/\((s[t.fr].toNat:Int)==125)=true:=by
        rcases hcl with h|h|h
        ·rw [h];exact .inl rfl
        ·rw [h];exact .inr (.inl ⟨rfl,rfl⟩)
        ·rw [h];exact .inr (.inr ⟨rfl,rfl,rfl⟩)
       rcases List.eq_nil_or_concat stk with hsk|⟨init,top,hsk⟩
       ·subst hsk;rw [Bb (.inl rfl)] at hF;have HF:=hid hF;clear hF hcl hst2 hbe;rcases hcs with d4|⟨d4,d5⟩|⟨d4,d5,d6⟩
        all_goals
         go_wp2_with (go_at_call 68;refine (hPW _).mono ?_;rintro e w6 ⟨rfl,hw6⟩;have HS6:Hid (lE (w1.heap.size+1) w3.heap.size (w1.alloc (Obj.cells #[i8 0,i8 0] 28)) ⟨pair.set i (-1),[],most⟩ w6):=hid Fh;have k66:w6.heap[wr.heap.size]?=some (.cells #[.int .u8 (t.kind.toNat:Int),i8 (t.fr:Int),i8 (t.to:Int)] 56 (0,0)):=Fi;obtain⟨t60,t61,t62,_⟩:=uA k66;obtain⟨cs,hc1,hc2,hc3⟩:=HS6.out.openB;have hp6:=HS6.out.pairB;have kF:=(HS6.out.bel.block w.heap.size Cs).trans ((Af w1 (Obj.cells #[i8 0,i8 0] 28) w.heap.size (lt_of_block HC.out.2.1)).trans HC.out.2.1);have HB6:Hid (Below w.heap.size w w6):=hid ((HC.out.2.2.alloc HC.out.2.2.size (Obj.cells #[i8 0,i8 0] 28)).trans (HS6.out.bel.mono Cs));clear hw6;skip);obtain⟨f0,f1,g0,g1⟩:=tA kF;have u9:=hid (VD kF (i8 5) (i8 (t.fr:Int)));have HB9:=hid ((HB6.out.setCell (p:=(y8 w.heap.size 0)) (C' _) (i8 5)).setCell (p:=(y8 w.heap.size 1)) (C' _) (i8 (t.fr:Int)));go_region
         all_goals (go_wp2_with fail)
         all_goals
          obtain⟨q0,q1,_⟩:=tA u9.out;generalize (w6.setCell (y8 w.heap.size 0) (i8 5)).setCell (y8 w.heap.size 1) (i8 (t.fr:Int))=w9 at *;rw [<- HF.out];refine Ca (v:=.tuple #[.slice none 0 0,.slice none 0 0,i8 0,qA 5 t.fr]) ?_ rfl ⟨rfl,HB9.out.drew⟩;simp [results,Tryz.results37,go_sem,q0,q1,qA]
       ·(try rw [List.concat_eq_append] at hsk)
        subst hsk;obtain⟨htop,u,hu,hufr⟩:=HQ.out.2.1 top Cu;have hgt:(⟨pair,init++[top],most⟩:vH).top=top:=by simp [vH.top]
        rw [hgt] at hF;have htf:vQ l top=u.fr:=by unfold vQ;rw [hu];rfl
        have hby2:sG s (vQ l top)=s[u.fr]:=by rw [htf];unfold sG;rw [O' hufr];rfl
        rw [hby2] at hF;have hufr2:(u.fr:Int) < (s.length:Int):=Cs
        have hPW2:=fun w=>BJ (w:=w) s[u.fr]
        obtain⟨p2,hp2⟩:∃ p2,p2=XK s[u.fr]:=⟨_,rfl⟩;rw [<- hp2] at hPW2 hF;obtain⟨v0,v1,v2⟩:=lH hu;obtain⟨b2,e2,_,_,yy1⟩:=GA HC.out.1 v1;cases e2;have hil:init.length < 100:=by simp at hsl;omega
        have HST2:=hid hst2;clear hp2 hcl v0 v1 v2 hgt htf hby2 hu hst2;by_cases hpc:p2=s[t.fr]
        ·rw [Bc (by simp [hpc])] at hF;rw [List.dropLast_concat] at hF;have d7:((p2.toNat:Int) != (s[t.fr].toNat:Int))=false:=by rw [hpc];simp
         have HF:=hid hF;clear hF hbe hpc;have hpl2:(pair.set i (-1)).length=l.length:=Ix
         have hii:(pair.set i (-1))[i]?=some (-1):=List.getElem?_set_self Cs;obtain⟨py,hpy⟩:∃ y,(pair.set i (-1))[top]?=some y:=⟨_,O' Cs⟩;have hit:i≠top:=Cs
         rcases hcs with d4|⟨d4,d5⟩|⟨d4,d5,d6⟩
         all_goals
          go_upto_region 20 with (first|(go_at_call 68;refine (hPW _).mono ?_;rintro e w6 ⟨rfl,hw6⟩;have HS6:Hid (lE (w1.heap.size+1) w3.heap.size (w1.alloc (Obj.cells #[i8 0,i8 0] 28)) ⟨pair.set i (-1),init++[top],most⟩ w6):=hid Fh;have k66:w6.heap[wr.heap.size]?=some (.cells #[.int .u8 (t.kind.toNat:Int),i8 (t.fr:Int),i8 (t.to:Int)] 56 (0,0)):=Fi;obtain⟨t60,t61,t62,_⟩:=uA k66;obtain⟨cs,hc1,hc2,hc3⟩:=HS6.out.openB;have hp6:=HS6.out.pairB;have kF:=(HS6.out.bel.block w.heap.size Cs).trans ((Af w1 (Obj.cells #[i8 0,i8 0] 28) w.heap.size (lt_of_block HC.out.2.1)).trans HC.out.2.1);have HB6:Hid (Below w.heap.size w w6):=hid ((HC.out.2.2.alloc HC.out.2.2.size (Obj.cells #[i8 0,i8 0] 28)).trans (HS6.out.bel.mono Cs));clear hw6;have hcm:=hc3 init.length top Cu;obtain⟨n0,n1⟩:=uF hc2 hcm;have yt:=HQ.out.1 _ _ HS6.out _ _ yy1;obtain⟨i0,i1⟩:=uF hp6 hii;obtain⟨j0,j1⟩:=uF hp6 hpy;have HA6:=hid (HS6.out.put i (top:Int));obtain⟨k0,k1⟩:=uF (x:=py) (i:=top) HA6.out.pairB (by rw [List.getElem?_set_ne hit];exact hpy)));generalize hm:init.length=m at *;have HM:=hid hm;clear hm hsl hPW;go_wp2_with (first|(go_at_call 68;refine (hPW2 _).mono ?_;rintro e w7 ⟨rfl,hw7⟩;replace hw7:=hw7.symm;subst hw7));go_region;go_wp2_with fail;go_roundg (gk - 1)
          case measure=>omega
          case rel=>exact⟨i+1,((pair.set i (-1)).set i (top:Int)).set top (i:Int),init,most,by rw [HM.out],rfl,Cu,Cs,by have h9:=(((HS6.out.put i (top:Int)).put top (i:Int)).pop _ most rfl).later (N' _ _).drew;rw [List.dropLast_concat] at h9;exact h9,HF.out,Ix,by rw [HM.out];omega,hml,fun x hx=>HST2.out x (List.mem_append_left _ hx)⟩
        ·rw [Bb (.inr hpc)] at hF;have d7:((p2.toNat:Int) != (s[t.fr].toNat:Int))=true:=by
          have:=hbe _ _ hpc
          show (!((p2.toNat:Int)==(s[t.fr].toNat:Int)))=true
          rw [this];rfl
         have HF:=hid hF;clear hF hbe hpc;rcases hcs with d4|⟨d4,d5⟩|⟨d4,d5,d6⟩
         all_goals
          go_upto_region 20 with (first|(go_at_call 68;refine (hPW _).mono ?_;rintro e w6 ⟨rfl,hw6⟩;have HS6:Hid (lE (w1.heap.size+1) w3.heap.size (w1.alloc (Obj.cells #[i8 0,i8 0] 28)) ⟨pair.set i (-1),init++[top],most⟩ w6):=hid Fh;have k66:w6.heap[wr.heap.size]?=some (.cells #[.int .u8 (t.kind.toNat:Int),i8 (t.fr:Int),i8 (t.to:Int)] 56 (0,0)):=Fi;obtain⟨t60,t61,t62,_⟩:=uA k66;obtain⟨cs,hc1,hc2,hc3⟩:=HS6.out.openB;have hp6:=HS6.out.pairB;have kF:=(HS6.out.bel.block w.heap.size Cs).trans ((Af w1 (Obj.cells #[i8 0,i8 0] 28) w.heap.size (lt_of_block HC.out.2.1)).trans HC.out.2.1);have HB6:Hid (Below w.heap.size w w6):=hid ((HC.out.2.2.alloc HC.out.2.2.size (Obj.cells #[i8 0,i8 0] 28)).trans (HS6.out.bel.mono Cs));clear hw6;have hcm:=hc3 init.length top Cu;obtain⟨n0,n1⟩:=uF hc2 hcm;have yt:=HQ.out.1 _ _ HS6.out _ _ yy1));generalize hm:init.length=m at *;have HM:=hid hm;clear hm hsl hPW;go_wp2_with (first|(go_at_call 68;refine (hPW2 _).mono ?_;rintro e w7 ⟨rfl,hw7⟩;replace hw7:=hw7.symm;subst hw7));obtain⟨f0,f1,g0,g1⟩:=tA kF;have u9:=hid (VD kF (i8 5) (i8 (t.fr:Int)));have HB9:=hid ((HB6.out.setCell (p:=(y8 w.heap.size 0)) (C' _) (i8 5)).setCell (p:=(y8 w.heap.size 1)) (C' _) (i8 (t.fr:Int)));go_region
          all_goals (go_wp2_with fail)
          all_goals
           obtain⟨q0,q1,_⟩:=tA u9.out;generalize (w6.setCell (y8 w.heap.size 0) (i8 5)).setCell (y8 w.heap.size 1) (i8 (t.fr:Int))=w9 at *;rw [<- HF.out];refine Ca (v:=.tuple #[.slice none 0 0,.slice none 0 0,i8 0,qA 5 t.fr]) ?_ rfl ⟨rfl,HB9.out.drew⟩;simp [results,Tryz.results37,go_sem,q0,q1,qA]
      ·rw [Bc hcl] at hF;have d4:=hbe s[t.fr] 41 (fun h=>hcl (.inl h));have d5:=hbe s[t.fr] 93 (fun h=>hcl (.inr (.inl h)));have d6:=hbe s[t.fr] 125 (fun h=>hcl (.inr (.inr h)));replace d4:((s[t.fr].toNat:Int)==41)=false:=d4;replace d5:((s[t.fr].toNat:Int)==93)=false:=d5;replace d6:((s[t.fr].toNat:Int)==125)=false:=d6;have HF:=hid hF;clear hF hcl hbe;go_wp2_with (go_at_call 68;refine (hPW _).mono ?_;rintro e w6 ⟨rfl,hw6⟩;have HS6:Hid (lE (w1.heap.size+1) w3.heap.size (w1.alloc (Obj.cells #[i8 0,i8 0] 28)) ⟨pair.set i (-1),stk,most⟩ w6):=hid Fh;have k66:w6.heap[wr.heap.size]?=some (.cells #[.int .u8 (t.kind.toNat:Int),i8 (t.fr:Int),i8 (t.to:Int)] 56 (0,0)):=Fi;obtain⟨t60,t61,t62,_⟩:=uA k66;obtain⟨cs,hc1,hc2,hc3⟩:=HS6.out.openB;have hp6:=HS6.out.pairB;have kF:=(HS6.out.bel.block w.heap.size Cs).trans ((Af w1 (Obj.cells #[i8 0,i8 0] 28) w.heap.size (lt_of_block HC.out.2.1)).trans HC.out.2.1);have HB6:Hid (Below w.heap.size w w6):=hid ((HC.out.2.2.alloc HC.out.2.2.size (Obj.cells #[i8 0,i8 0] 28)).trans (HS6.out.bel.mono Cs));clear hw6;skip);go_roundg (gk - 1)
       case measure=>omega
       case rel=>exact⟨i+1,pair.set i (-1),stk,most,rfl,rfl,Cu,Cs,HS6.out,HF.out,Ix,hsl,hml,hst2⟩
     ·rw [Bb hp0] at hF;have d3:((p.toNat:Int) != 0)=true:=by
       have:=hbe _ _ hp0
       show (!((p.toNat:Int)==0))=true
       have e:((p.toNat:Int)==0)=false:=this;rw [e];rfl
      by_cases hfull:stk.length=100
      ·rw [Bb hfull] at hF;have d4:((stk.length:Int)==100)=true:=by rw [hfull];rfl
       have HF:=hid hF;clear hF hbe hst2 hp0 hfull;go_wp2_with (go_at_call 68;refine (hPW _).mono ?_;rintro e w6 ⟨rfl,hw6⟩;have HS6:Hid (lE (w1.heap.size+1) w3.heap.size (w1.alloc (Obj.cells #[i8 0,i8 0] 28)) ⟨pair.set i (-1),stk,most⟩ w6):=hid Fh;have k66:w6.heap[wr.heap.size]?=some (.cells #[.int .u8 (t.kind.toNat:Int),i8 (t.fr:Int),i8 (t.to:Int)] 56 (0,0)):=Fi;obtain⟨t60,t61,t62,_⟩:=uA k66;obtain⟨cs,hc1,hc2,hc3⟩:=HS6.out.openB;have hp6:=HS6.out.pairB;have kF:=(HS6.out.bel.block w.heap.size Cs).trans ((Af w1 (Obj.cells #[i8 0,i8 0] 28) w.heap.size (lt_of_block HC.out.2.1)).trans HC.out.2.1);have HB6:Hid (Below w.heap.size w w6):=hid ((HC.out.2.2.alloc HC.out.2.2.size (Obj.cells #[i8 0,i8 0] 28)).trans (HS6.out.bel.mono Cs));clear hw6;skip);obtain⟨f0,f1,g0,g1⟩:=tA kF;have u9:=hid (VD kF (i8 6) (i8 (t.fr:Int)));have HB9:=hid ((HB6.out.setCell (p:=(y8 w.heap.size 0)) (C' _) (i8 6)).setCell (p:=(y8 w.heap.size 1)) (C' _) (i8 (t.fr:Int)));go_region
       all_goals (go_wp2_with fail)
       all_goals
        obtain⟨q0,q1,_⟩:=tA u9.out;generalize (w6.setCell (y8 w.heap.size 0) (i8 6)).setCell (y8 w.heap.size 1) (i8 (t.fr:Int))=w9 at *;rw [<- HF.out];refine Ca (v:=.tuple #[.slice none 0 0,.slice none 0 0,i8 0,qA 6 t.fr]) ?_ rfl ⟨rfl,HB9.out.drew⟩;simp [results,Tryz.results37,go_sem,q0,q1,qA]
      ·rw [Bc hfull] at hF;have hlt:stk.length < 100:=by omega
       have d4:((stk.length:Int)==100)=false:=Cv
       have hmx:max (most:Int) ((stk.length:Int)+1)=((max most (stk.length+1):Nat):Int):=Cs
       have hmx2:max most (stk.length+1)<=100:=Cs
       have HF:=hid hF;clear hF hbe hp0 hfull;go_wp2_with (go_at_call 68;refine (hPW _).mono ?_;rintro e w6 ⟨rfl,hw6⟩;have HS6:Hid (lE (w1.heap.size+1) w3.heap.size (w1.alloc (Obj.cells #[i8 0,i8 0] 28)) ⟨pair.set i (-1),stk,most⟩ w6):=hid Fh;have k66:w6.heap[wr.heap.size]?=some (.cells #[.int .u8 (t.kind.toNat:Int),i8 (t.fr:Int),i8 (t.to:Int)] 56 (0,0)):=Fi;obtain⟨t60,t61,t62,_⟩:=uA k66;obtain⟨cs,hc1,hc2,hc3⟩:=HS6.out.openB;have hp6:=HS6.out.pairB;have kF:=(HS6.out.bel.block w.heap.size Cs).trans ((Af w1 (Obj.cells #[i8 0,i8 0] 28) w.heap.size (lt_of_block HC.out.2.1)).trans HC.out.2.1);have HB6:Hid (Below w.heap.size w w6):=hid ((HC.out.2.2.alloc HC.out.2.2.size (Obj.cells #[i8 0,i8 0] 28)).trans (HS6.out.bel.mono Cs));clear hw6;obtain⟨yc,hyc⟩:∃ y,cs[stk.length]?=some y:=⟨_,O' Cs⟩;obtain⟨n0,n1⟩:=uF hc2 hyc);go_roundg (gk - 1)
       case measure=>omega
       case rel=>exact⟨i+1,pair.set i (-1),stk++[i],max most (stk.length+1),Cu,by first|rfl|rw [hmx],Cu,Cs,HS6.out.push i _ hlt,HF.out,Ix,Cv,hmx2,fun x hx=>by
        rw [List.mem_append,List.mem_singleton] at hx;rcases hx with hx|rfl
        ·exact hst2 x hx
        ·exact⟨Cs,t,ht,hfr⟩⟩
   ·have d0:decide ((i:Int) < (l.length:Int))=false:=by simpa using hi
    rw [List.drop_of_length_le Cs,rF] at hF;simp only [] at hF;have hB9:Below w.heap.size w wr:=(HC.out.2.2.alloc HC.out.2.2.size (Obj.cells #[i8 0,i8 0] 28)).trans (hS.bel.mono Cs);have hb1:Below w1.heap.size w1 wr:=((N' w1.heap.size w1).alloc (C' _) (Obj.cells #[i8 0,i8 0] 28)).trans (hS.bel.mono Cs);have kF:=(hS.bel.block w.heap.size Cs).trans ((Af w1 (Obj.cells #[i8 0,i8 0] 28) w.heap.size (lt_of_block HC.out.2.1)).trans HC.out.2.1);obtain⟨f0,f1,g0,g1⟩:=tA kF;rcases List.eq_nil_or_concat stk with hsk|⟨init,top,hsk⟩
    ·subst hsk;rw [Bb rfl] at hF;have hip:(nG pair).length=pair.length:=by simp [nG]
     have hrp:wr.ownsRow (w1.heap.size+1) 3 1 (.slice (some (y8 (w1.heap.size+1) 0)) l.length l.length) pair.length (nG pair):=by
      refine⟨by rw [hip,Nat.mul_one],.inr ⟨w1.heap.size+1,l.length,(nG pair).toArray,by rw [hpl],C' _,hS.pairB,Cs,Da,by simp [hip,hpl],?_⟩⟩;rw [List.toList_toArray,Au (by rw [hip];omega)]
     have HRP:=hid (Az (LD HC.out.1 hb1) (Az hrp hB9));have HF:=hid hF;clear hF hS hrp hB9 hb1 hst;go_wp2_with fail;rw [<- HF.out];have u9:=VD kF (i8 0) (i8 0);have HB9:=hid ((HRP.out.2.2.setCell (p:=(y8 w.heap.size 0)) (C' _) (i8 0)).setCell (p:=(y8 w.heap.size 1)) (C' _) (i8 0));have HO8:=hid (rA (rA HRP.out.1 (y8 w.heap.size 0) (by have:=HL0.out;simp;omega) (i8 0)) (y8 w.heap.size 1) (by have:=HL0.out;simp;omega) (i8 0));have HO9:=hid (rA (rA HRP.out.2.1 (y8 w.heap.size 0) Cv (i8 0)) (y8 w.heap.size 1) Cv (i8 0));obtain⟨q0,q1,_⟩:=tA u9;generalize (wr.setCell (y8 w.heap.size 0) (i8 0)).setCell (y8 w.heap.size 1) (i8 0)=w9 at *;refine Ca (v:=.tuple #[.slice va l.length vc,.slice (some (y8 (w1.heap.size+1) 0)) l.length l.length,i8 (most:Int),qA 0 0]) ?_ rfl ⟨_,_,rfl,jE HO8.out Kj,jE HO9.out Cs,HB9.out⟩;simp [results,Tryz.results37,go_sem,q0,q1,qA]
    ·(try rw [List.concat_eq_append] at hsk)
     subst hsk;obtain⟨htop,u,hu,hufr⟩:=hst top Cu;rw [Bc Cu] at hF;have hgt:(⟨pair,init++[top],most⟩:vH).top=top:=by simp [vH.top]
     rw [hgt] at hF;have htf:vQ l top=u.fr:=by unfold vQ;rw [hu];rfl
     rw [htf] at hF;obtain⟨v0,v1,v2⟩:=lH hu;obtain⟨b2,e2,hb2l,hbl2,yy1⟩:=GA HC.out.1 v1;subst e2;have yt:wr.cell? ⟨b2,top*3+1,none⟩=some (i8 (u.fr:Int)):=(hb1.cell (p:=⟨b2,top*3+1,none⟩) hbl2).trans yy1;have hil:init.length < 100:=by simp at hsl;omega
     obtain⟨cs,hc1,hc2,hc3⟩:=hS.openB;have hcm:=hc3 init.length top Cu;obtain⟨n0,n1⟩:=uF hc2 hcm;have htl:top < l.length:=Cs
     have HB6:=hid hB9;have HF:=hid hF;clear hF hS hst hgt htf hu v0 v1 v2 yy1 hb1 hB9 hc3 hcm hsl;have hln:(init++[top]).length=init.length+1:=Cu
     rw [hln];clear hln;generalize hm:init.length=m at *;clear hm;have hwm2:IntKind.i64.wrap (m:Int)=(m:Int):=IntWalk.i64_in _ Cs;have hmi:(m:Int) < 100:=Cs
     have htli:(top:Int) < (l.length:Int):=Cs
     go_wp2_with fail;have u9:=hid (VD kF (i8 5) (i8 (u.fr:Int)));have HB9:=hid ((HB6.out.setCell (p:=(y8 w.heap.size 0)) (C' _) (i8 5)).setCell (p:=(y8 w.heap.size 1)) (C' _) (i8 (u.fr:Int)));have far:∀ b o v,b≠w.heap.size->wr.cell? (y8 b o)=some v->((wr.setCell (y8 w.heap.size 0) (i8 5)).setCell (y8 w.heap.size 1) (i8 (u.fr:Int))).cell? (y8 b o)=some v:=fun b o v hb h=>(World.cell?_setCell_far _ (y8 w.heap.size 1) (y8 b o) _ (fun e=>hb e.symm)).trans ((World.cell?_setCell_far _ (y8 w.heap.size 0) (y8 b o) _ (fun e=>hb e.symm)).trans h)
     have s0:=far _ _ _ Cs n0;have s1:=far _ _ _ Kj yt;refine Ce (S:=fun w'=>w'.cell? (y8 w3.heap.size m)=some (i8 (top:Int))/\w'.cell? ⟨b2,top*3+1,none⟩=some (i8 (u.fr:Int))) Cw ?_ (fun hHeld=>?_)
     ·exact Cn
     refine tn_ 0 ?_;refine tn_ 1 ?_;refine tn_ 2 ?_;refine tn_ 3 ?_;refine tn_ 4 ?_;refine tn_ 5 ?_;refine tn_ 6 ?_;refine tn_ 7 ?_;refine tn_ 8 ?_;refine tn_ 9 ?_;refine tn_ 10 ?_;refine tn_ 11 ?_;refine Cb (rs:=[12]) Cw Cu (Cc (o:=?_) ?_ (fun K hK=>?_) Cd)
     rotate_left
     ·exact Cf
     go_simp;go_wp2_with fail;refine hK.out _ _ ?_ (fun hHeld12=>?_)
     ·exact Cn
     clear hK K
     try simp only [Act.put,Q',Z',Aa]
     refine wpAnyH_done Cw ?_ _;go_wp2_with fail;obtain⟨q0,q1,_⟩:=tA u9.out;generalize (wr.setCell (y8 w.heap.size 0) (i8 5)).setCell (y8 w.heap.size 1) (i8 (u.fr:Int))=w9 at *;rw [<- HF.out];refine Ca (v:=.tuple #[.slice none 0 0,.slice none 0 0,i8 0,qA 5 u.fr]) ?_ rfl ⟨rfl,HB9.out.drew⟩;simp [results,Tryz.results37,go_sem,q0,q1,qA]
end
