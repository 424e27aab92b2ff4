import Derived.Test.YtfmpphplbdojbaaGreatDoorQBG
namespace Go.Proofs.YtfmpphplbdojbaaGreatDoor
open Lib(hid)
set_option linter.all false
set_option maxHeartbeats 40000000
set_option maxRecDepth 100000
section
open Go.RowKit
variable {w:World}
theorem uF {b i:Nat}{p:List Int}{T:TypeId} (h:w.heap[b]?=some (.cells (nG p).toArray T (0,0))) {x:Int} (hx:p[i]?=some x):w.cell? ⟨b,i,none⟩=some (.int .i64 x)/\w.frozen? ⟨b,i,none⟩=false:=by
 constructor
 ·unfold World.cell?;rw [h];simp [nG,hx]
 ·unfold World.frozen?;rw [h];simp
theorem rS {b i:Nat}{p:List Int}{T:TypeId} (h:w.heap[b]?=some (.cells (nG p).toArray T (0,0))) (x:Int):(w.setCell ⟨b,i,none⟩ (.int .i64 x)).heap[b]?=some (.cells (nG (p.set i x)).toArray T (0,0)):=by
 rw [heap_setCell_same w b i _ _ _ h];simp [nG,List.map_set]
structure lE (b8 b9:Nat) (wB:World) (st:vH) (w:World):Prop where
 lt:b8 < b9
 pairB:w.heap[b8]?=some (.cells (nG st.pair).toArray 3 (0,0))
 openB:∃ cs:List Int,cs.length=100/\w.heap[b9]?=some (.cells (nG cs).toArray 138 (0,0))/\∀ (j x:Nat),st.stk[j]?=some x->cs[j]?=some (x:Int)
 bel:Below b8 wB w
variable {b8 b9:Nat}{wB:World}{st:vH}
theorem lE.later {w':World} (h:lE b8 b9 wB st w) (hb:Below w.heap.size w w'):lE b8 b9 wB st w':=by
 obtain⟨cs,h1,h2,h3⟩:=h.openB;exact⟨h.lt,(hb.block _ (lt_of_block h.pairB)).trans h.pairB,⟨cs,h1,(hb.block _ (lt_of_block h2)).trans h2,h3⟩,h.bel.trans (hb.mono (by have:=lt_of_block h.pairB;omega))⟩
theorem lE.put (h:lE b8 b9 wB st w) (i:Nat) (x:Int):lE b8 b9 wB ⟨st.pair.set i x,st.stk,st.most⟩ (w.setCell ⟨b8,i,none⟩ (.int .i64 x)):=by
 obtain⟨cs,h1,h2,h3⟩:=h.openB;have:=h.lt;exact⟨h.lt,rS h.pairB x,⟨cs,h1,by rw [Ad _ _ _ _ Cn];exact h2,h3⟩,h.bel.setCell (p:=⟨b8,i,none⟩) (C' _) _⟩
theorem lE.push (h:lE b8 b9 wB st w) (i m:Nat) (hn:st.stk.length < 100):lE b8 b9 wB ⟨st.pair,st.stk++[i],m⟩ (w.setCell ⟨b9,st.stk.length,none⟩ (.int .i64 (i:Int))):=by
 obtain⟨cs,h1,h2,h3⟩:=h.openB;have:=h.lt;refine⟨h.lt,by rw [Ad _ _ _ _ Cn];exact h.pairB,⟨cs.set st.stk.length (i:Int),Ee,rS h2 _,fun j x hx=>?_⟩,h.bel.setCell (p:=⟨b9,st.stk.length,none⟩) Cn _⟩;rw [List.getElem?_append] at hx;split at hx
 ·rename_i hj;rw [List.getElem?_set_ne Cf];exact h3 j x hx
 ·rename_i hj;have hjz:j - st.stk.length=0:=by
   have:=(Ai.1 hx).1;simp at this;omega
  rw [hjz] at hx;cases hx;have hje:j=st.stk.length:=Cf
  rw [hje,List.getElem?_set_self Cf]
theorem lE.pop (h:lE b8 b9 wB st w) (p:List Int) (m:Nat) (hp:p=st.pair):lE b8 b9 wB ⟨p,st.stk.dropLast,m⟩ w:=by
 obtain⟨cs,h1,h2,h3⟩:=h.openB;subst hp;refine⟨h.lt,h.pairB,⟨cs,h1,h2,fun j x hx=>h3 j x ?_⟩,h.bel⟩;rw [List.dropLast_eq_take,List.getElem?_take] at hx;split at hx
 ·exact hx
 ·cases hx
theorem BR (s:List UInt8) (hT:NC w):Calls Tryz.prog 63 #[.string ⟨s.toArray⟩] w (fJ (FH s) w):=by
 have h0:=heap_alloc_new w (Obj.cells #[.int .i64 0,.int .i64 0] 35);have hB0:=(J' w.heap.size w).alloc (C' _) (Obj.cells #[.int .i64 0,.int .i64 0] 35);have HA:=fun (w1:World) h=>DT (w:=w1) s h
 have HT:=hid hT;clear hT;have hR:FH s=match wH s with
  | .bad e a=>.bad e a
  | .ok l=>rF s l l 0 ⟨List.replicate l.length 0,[],0⟩:=rfl
 rw [hR];clear hR;have hlt0:=lt_of_block h0;cases hA:wH s with
 | bad er a =>
  obtain⟨her,_⟩:=yN hA;rw [hA] at HA;have hne:((er:Nat):Int)≠0:=Cf
  have hne2:(((er:Nat):Int)==0)=false:=Hg
  unfold TI qA at HA;go_enter Tryz.func63,Tryz.ntmps63;go_upto_region 1 with fail;generalize w.alloc (Obj.cells #[.int .i64 0,.int .i64 0] 35)=wA at *;go_wp2_with (go_at_call 100;refine (HA wA (HT.out.below hB0)).mono ?_;rintro e w1 ⟨rfl,hb⟩;have k6:=(hb.block _ hlt0).trans h0;have hBw:=dA hB0 hb;clear hb);have h3:=(Ac w1 (Obj.cells #[.int .i64 (er:Int),.int .i64 (a:Int)] 35) w.heap.size (lt_of_block k6)).trans k6;have h4:=heap_alloc_new w1 (Obj.cells #[.int .i64 (er:Int),.int .i64 (a:Int)] 35);have hB2:=hid (hBw.alloc hBw.size (Obj.cells #[.int .i64 (er:Int),.int .i64 (a:Int)] 35));have HS:=hid (show w.heap.size≠w1.heap.size by have:=lt_of_block k6;omega);clear h0 hB0 k6 hBw;generalize w1.alloc (Obj.cells #[.int .i64 (er:Int),.int .i64 (a:Int)] 35)=w2 at *;obtain⟨c0,c1,f0,f1⟩:=tA h3;obtain⟨e0,e1,_⟩:=tA h4;have u9:=hid (VD h3 (.int .i64 (er:Int)) (.int .i64 (a:Int)));have HB9:=hid ((hB2.out.setCell (p:=⟨w.heap.size,0,none⟩) (C' _) (.int .i64 (er:Int))).setCell (p:=⟨w.heap.size,1,none⟩) (C' _) (.int .i64 (a:Int)));go_region
  all_goals (go_wp2_with fail)
  all_goals
   obtain⟨q0,q1,_⟩:=tA u9.out;generalize (w2.setCell ⟨w.heap.size,0,none⟩ (.int .i64 (er:Int))).setCell ⟨w.heap.size,1,none⟩ (.int .i64 (a:Int))=w9 at *;refine bodyPost_ret (v:=.tuple #[.slice none 0 0,.slice none 0 0,.int .i64 0,qA er a]) ?_ rfl ⟨rfl,HB9.out.drew⟩;simp [results,Tryz.results63,go_sem,q0,q1,qA]
 | ok l =>
  obtain⟨hfit,hlen,hs⟩:=gJ hA;rw [hA] at HA;unfold TI qA at HA
  show Calls _ _ _ _ (fJ (rF s l l 0 ⟨List.replicate l.length 0,[],0⟩) w)
  obtain⟨R,hRR⟩:∃ R,R=rF s l l 0 ⟨List.replicate l.length 0,[],0⟩:=⟨_,rfl⟩;rw [<- hRR];have HRR:=hid hRR;obtain⟨iI,hiI,hy0,hy1,hy2⟩:=info_parts Tryz.infoInt;obtain⟨hzv,hzi⟩:=zero_of_info Tryz.infoArr;clear hRR;go_enter Tryz.func63,Tryz.ntmps63;go_upto_region 1 with fail;generalize w.alloc (Obj.cells #[.int .i64 0,.int .i64 0] 35)=wA at *;go_wp2_with (first|(go_at_call 100;refine (HA wA (HT.out.below hB0)).mono ?_;rintro e w1 ⟨tv,rfl,hrow,hb⟩;obtain⟨va,vc,rfl⟩:=bE hrow;have k6:=(hb.block _ hlt0).trans h0;have hBw:=dA hB0 hb;clear hb)|(refine wpList_make_full _ rfl _ _ 55 rfl w.heap.size 3 iI _ 1 Tryz.underInts hiI hy0 hy1 .i64 .i64 _ _ l.length rfl rfl rfl rfl (by rw [hy2];omega) Cu (by simp;have:=hBw.size;omega) ?_;intro w3 hown3 hgrow3));have hbase:=hBw.size;have hltF:=lt_of_block k6;have hs1:(w1.alloc (Obj.cells #[.int .i64 0,.int .i64 0] 35)).heap.size=w1.heap.size+1:=Cm
  have hp8:w3.heap[w1.heap.size+1]?=some (.cells (nG (List.replicate l.length 0)).toArray 3 (0,0)):=by
   rcases hown3.2 with ⟨e1,_⟩|⟨g,cap,cur,e1,e2,e3,e4,e5,e6,e7⟩
   ·cases e1
   ·cases e1;have e8:(madeCells (Value.int .i64 0).cells (l.length*1)).toList=nG (List.replicate l.length 0):=by
     show (madeCells #[Value.int .i64 0] (l.length*1)).toList=_
     rw [toList_madeCells_one];simp [nG]
    rw [Ar (by rw [Array.length_toList,e6];exact C' _),e8] at e7;rw [<- hs1,e3,<- e7]
  have hb8:=lt_of_block hp8;have hbel3:Below (w1.heap.size+1) (w1.alloc (Obj.cells #[.int .i64 0,.int .i64 0] 35)) w3:=(J' _ _).grown hgrow3 (by rw [hs1];exact C' _) (fun j hj=>by cases hj);have hM0:lE (w1.heap.size+1) w3.heap.size (w1.alloc (Obj.cells #[.int .i64 0,.int .i64 0] 35)) ⟨List.replicate l.length 0,[],0⟩ (w3.alloc (Obj.cells (Array.replicate 100 (.int .i64 0)) 138)):=by
   refine⟨hb8,(Ac _ _ _ hb8).trans hp8,⟨List.replicate 100 0,Cm,?_,fun j x hx=>by simp at hx⟩,hbel3.alloc Cf _⟩;have:=heap_alloc_new w3 (Obj.cells (Array.replicate 100 (.int .i64 0)) 138);have e:(nG (List.replicate 100 0)).toArray=Array.replicate 100 (Value.int .i64 0):=by rw [nG,List.map_replicate,List.toArray_replicate]
   rw [e];exact this
  have HC:=hid (And.intro hrow (And.intro k6 hBw));have HL0:=hid hlt0;clear hrow k6 hBw h0 hB0 hlt0 HT HA hown3 hgrow3 hp8 hbel3
  go_loopg [10,11,29] l.length (fun j v10 v11 v29 wr=>∃ (i:Nat) (pair:List Int) (stk:List Nat) (most:Nat),v10=.int .i64 (stk.length:Int)/\v11=.int .i64 (most:Int)/\v29=.int .i64 (i:Int)/\i+j=l.length/\lE (w1.heap.size+1) w3.heap.size (w1.alloc (Obj.cells #[.int .i64 0,.int .i64 0] 35)) ⟨pair,stk,most⟩ wr/\rF s l (l.drop i) i ⟨pair,stk,most⟩=R/\pair.length=l.length/\stk.length<=100/\most<=100/\(∀ x∈stk,x < i/\∃ u,l[x]?=some u/\u.fr < s.length))
  case atStart=>exact⟨0,List.replicate l.length 0,[],0,rfl,rfl,rfl,Cf,hM0,HRR.out.symm,Cm,Ch,Ch,fun x hx=>by cases hx⟩
  case round =>
   obtain⟨i,pair,stk,most,rfl,rfl,rfl,hj,hS,hF,hpl,hsl,hml,hst⟩:=hrel;by_cases hi:i < l.length
   ·have d0:decide ((i:Int) < (l.length:Int))=true:=by simpa using hi
    obtain⟨t,ht⟩:∃ t,l[i]?=some t:=⟨l[i],M' hi⟩;obtain⟨hf1,hf2,hf3⟩:=hfit t (List.mem_of_getElem? ht);obtain⟨x0,x1,x2⟩:=lH ht;obtain⟨b,hva,_,hbl,y0⟩:=GA HC.out.1 x0;obtain⟨b',e',_,_,y1⟩:=GA HC.out.1 x1;obtain⟨b'',e'',_,_,y2⟩:=GA HC.out.1 x2;subst hva;cases e';cases e'';have kq:∀ (w9:World) st,lE (w1.heap.size+1) w3.heap.size (w1.alloc (Obj.cells #[.int .i64 0,.int .i64 0] 35)) st w9->∀ o v,w1.cell? ⟨b,o,none⟩=some v->w9.cell? ⟨b,o,none⟩=some v:=fun w9 st h9 o v h=>(h9.bel.cell (p:=⟨b,o,none⟩) Cn).trans ((((J' w1.heap.size w1).alloc (C' _) (Obj.cells #[.int .i64 0,.int .i64 0] 35)).cell (p:=⟨b,o,none⟩) hbl).trans h)
    have z0:=kq _ _ hS _ _ y0;have z1:=kq _ _ hS _ _ y1;have z2:=kq _ _ hS _ _ y2;have hdr:l.drop i=t::l.drop (i+1):=by
     have ht2:=ht;rw [M' hi] at ht2;cases ht2;exact An hi
    rw [hdr,rF] at hF;have hl8:=lt_of_block hS.pairB;have hS4:=hS.later ((J' wr.heap.size wr).alloc (C' _) (Obj.cells #[.int .u8 (t.kind.toNat:Int),.int .i64 (t.fr:Int),.int .i64 (t.to:Int)] 63));obtain⟨px,hpx⟩:∃ x,pair[i]?=some x:=⟨pair[i],M' Cf⟩;obtain⟨cp,fp⟩:=uF hS4.pairB hpx;have hS5:lE (w1.heap.size+1) w3.heap.size (w1.alloc (Obj.cells #[.int .i64 0,.int .i64 0] 35)) ⟨pair.set i (-1),stk,most⟩ ((wr.setCell ⟨w1.heap.size+1,i,none⟩ (.int .i64 (-1))).alloc (Obj.cells #[.int .u8 (t.kind.toNat:Int),.int .i64 (t.fr:Int),.int .i64 (t.to:Int)] 63)):=(hS.put i (-1)).later ((J' _ _).alloc (C' _) _);have hk5:((wr.setCell ⟨w1.heap.size+1,i,none⟩ (.int .i64 (-1))).alloc (Obj.cells #[.int .u8 (t.kind.toNat:Int),.int .i64 (t.fr:Int),.int .i64 (t.to:Int)] 63)).heap[wr.heap.size]?=some (.cells #[.int .u8 (t.kind.toNat:Int),.int .i64 (t.fr:Int),.int .i64 (t.to:Int)] 63 (0,0)):=by have:=heap_alloc_new (wr.setCell ⟨w1.heap.size+1,i,none⟩ (.int .i64 (-1))) (Obj.cells #[.int .u8 (t.kind.toNat:Int),.int .i64 (t.fr:Int),.int .i64 (t.to:Int)] 63);simpa using this
    obtain⟨t0,t1,t2,_⟩:=uA hk5;have hwf:IntKind.i64.wrap ((t.to:Int) - (t.fr:Int))=(t.to:Int) - (t.fr:Int):=IntWalk.i64_in _ Cf;simp only [] at hF;have hst2:∀ x∈stk,x < i+1/\∃ u,l[x]?=some u/\u.fr < s.length:=fun x hx=>⟨by have:=(hst x hx).1;omega,(hst x hx).2⟩
    have HQ:=hid (And.intro kq (And.intro hst hfit));have HS5:=hid hS5;have HK5:=hid hk5;clear x0 x1 x2 hdr hS hS4 hk5 kq hst hfit hS5;by_cases hN:t.kind≠8∨t.to - t.fr≠1
    ·rw [if_pos hN] at hF;have hcs:((t.kind.toNat:Int) != 8)=true∨((t.kind.toNat:Int) != 8)=false/\((t.to:Int) - (t.fr:Int) != 1)=true:=by
      by_cases h8:t.kind=8
      ·right
       have h9:=hN.resolve_left (fun h=>h h8);have h10:=hf3 h8;rw [h8];exact⟨rfl,Cn⟩
      ·left
       have:=zF t.kind 8;rw [decide_eq_false h8] at this
       show (!((t.kind.toNat:Int)==8))=true
       have e:((t.kind.toNat:Int)==8)=false:=this.symm;rw [e];rfl
     have HF:=hid hF;clear hF hN;rcases hcs with d1|⟨d1,d2⟩
     all_goals
      go_wp2_with fail;go_roundg (gk - 1)
      case measure=>omega
      case rel=>exact⟨i+1,pair.set i (-1),stk,most,rfl,rfl,Cm,Cf,HS5.out,HF.out,Ho,hsl,hml,hst2⟩
    ·rw [if_neg hN] at hF;have hk8:t.kind=8:=Classical.byContradiction fun h=>hN (.inl h)
     have hk1:t.to - t.fr=1:=Classical.byContradiction fun h=>hN (.inr h)
     have hfr:t.fr < s.length:=by have:=hf3 hk8;omega
     have d1:((t.kind.toNat:Int) != 8)=false:=by rw [hk8];rfl
     have d2:((t.to:Int) - (t.fr:Int) != 1)=false:=Cn
     have hfr2:(t.fr:Int) < (s.length:Int):=Cf
     have hby:sG s t.fr=s[t.fr]:=by unfold sG;rw [M' hfr];rfl
     rw [hby] at hF;have hPW:=fun w=>BJ (w:=w) s[t.fr]
     obtain⟨p,hp⟩:∃ p,p=XK s[t.fr]:=⟨_,rfl⟩;rw [<- hp] at hPW hF;have hbe:∀ (x y:UInt8),¬ x=y->((x.toNat:Int)==(y.toNat:Int))=false:=fun x y h=>by
      rw [<- zF];exact decide_eq_false h
     clear hN hp hby hk8 hk1;by_cases hp0:p=0
     ·rw [if_neg (fun h=>h hp0)] at hF;have d3:((p.toNat:Int) != 0)=false:=by rw [hp0];rfl
      by_cases hcl:s[t.fr]=41∨s[t.fr]=93∨s[t.fr]=125
      ·rw [if_pos hcl] at hF;have hcs:((s[t.fr].toNat:Int)==41)=true∨((s[t.fr].toNat:Int)==41)=false/\((s[t.fr].toNat:Int)==93)=true∨((s[t.fr].toNat:Int)==41)=false/\((s[t.fr].toNat:Int)==93)=false/\((s[t.fr].toNat:Int)==125)=true:=by
        rcases hcl with h|h|h
        ·rw [h];exact .inl rfl
        ·rw [h];exact .inr (.inl ⟨rfl,rfl⟩)
        ·rw [h];exact .inr (.inr ⟨rfl,rfl,rfl⟩)
       rcases List.eq_nil_or_concat stk with hsk|⟨init,top,hsk⟩
       ·subst hsk;rw [if_pos (.inl rfl)] at hF;have HF:=hid hF;clear hF hcl hst2 hbe;rcases hcs with d4|⟨d4,d5⟩|⟨d4,d5,d6⟩
        all_goals
         go_wp2_with (go_at_call 101;refine (hPW _).mono ?_;rintro e w6 ⟨rfl,hw6⟩;have HS6:Hid (lE (w1.heap.size+1) w3.heap.size (w1.alloc (Obj.cells #[.int .i64 0,.int .i64 0] 35)) ⟨pair.set i (-1),[],most⟩ w6):=hid Ep;have k66:w6.heap[wr.heap.size]?=some (.cells #[.int .u8 (t.kind.toNat:Int),.int .i64 (t.fr:Int),.int .i64 (t.to:Int)] 63 (0,0)):=Eq;obtain⟨t60,t61,t62,_⟩:=uA k66;obtain⟨cs,hc1,hc2,hc3⟩:=HS6.out.openB;have hp6:=HS6.out.pairB;have kF:=(HS6.out.bel.block w.heap.size Cf).trans ((Ac w1 (Obj.cells #[.int .i64 0,.int .i64 0] 35) w.heap.size (lt_of_block HC.out.2.1)).trans HC.out.2.1);have HB6:Hid (Below w.heap.size w w6):=hid ((HC.out.2.2.alloc HC.out.2.2.size (Obj.cells #[.int .i64 0,.int .i64 0] 35)).trans (HS6.out.bel.mono Cf));clear hw6;skip);obtain⟨f0,f1,g0,g1⟩:=tA kF;have u9:=hid (VD kF (.int .i64 5) (.int .i64 (t.fr:Int)));have HB9:=hid ((HB6.out.setCell (p:=⟨w.heap.size,0,none⟩) (C' _) (.int .i64 5)).setCell (p:=⟨w.heap.size,1,none⟩) (C' _) (.int .i64 (t.fr:Int)));go_region
         all_goals (go_wp2_with fail)
         all_goals
          obtain⟨q0,q1,_⟩:=tA u9.out;generalize (w6.setCell ⟨w.heap.size,0,none⟩ (.int .i64 5)).setCell ⟨w.heap.size,1,none⟩ (.int .i64 (t.fr:Int))=w9 at *;rw [<- HF.out];refine bodyPost_ret (v:=.tuple #[.slice none 0 0,.slice none 0 0,.int .i64 0,qA 5 t.fr]) ?_ rfl ⟨rfl,HB9.out.drew⟩;simp [results,Tryz.results63,go_sem,q0,q1,qA]
       ·(try rw [List.concat_eq_append] at hsk)
        subst hsk;obtain⟨htop,u,hu,hufr⟩:=HQ.out.2.1 top Cm;have hgt:(⟨pair,init++[top],most⟩:vH).top=top:=by simp [vH.top]
        rw [hgt] at hF;have htf:vQ l top=u.fr:=by unfold vQ;rw [hu];rfl
        have hby2:sG s (vQ l top)=s[u.fr]:=by rw [htf];unfold sG;rw [M' hufr];rfl
        rw [hby2] at hF;have hufr2:(u.fr:Int) < (s.length:Int):=Cf
        have hPW2:=fun w=>BJ (w:=w) s[u.fr]
        obtain⟨p2,hp2⟩:∃ p2,p2=XK s[u.fr]:=⟨_,rfl⟩;rw [<- hp2] at hPW2 hF;obtain⟨v0,v1,v2⟩:=lH hu;obtain⟨b2,e2,_,_,yy1⟩:=GA HC.out.1 v1;cases e2;have hil:init.length < 100:=by simp at hsl;omega
        have HST2:=hid hst2;clear hp2 hcl v0 v1 v2 hgt htf hby2 hu hst2;by_cases hpc:p2=s[t.fr]
        ·rw [if_neg (by simp [hpc])] at hF;rw [List.dropLast_concat] at hF;have d7:((p2.toNat:Int) != (s[t.fr].toNat:Int))=false:=by rw [hpc];simp
         have HF:=hid hF;clear hF hbe hpc;have hpl2:(pair.set i (-1)).length=l.length:=Ho
         have hii:(pair.set i (-1))[i]?=some (-1):=List.getElem?_set_self Cf;obtain⟨py,hpy⟩:∃ y,(pair.set i (-1))[top]?=some y:=⟨_,M' Cf⟩;have hit:i≠top:=Cf
         rcases hcs with d4|⟨d4,d5⟩|⟨d4,d5,d6⟩
         all_goals
          go_upto_region 20 with (first|(go_at_call 101;refine (hPW _).mono ?_;rintro e w6 ⟨rfl,hw6⟩;have HS6:Hid (lE (w1.heap.size+1) w3.heap.size (w1.alloc (Obj.cells #[.int .i64 0,.int .i64 0] 35)) ⟨pair.set i (-1),init++[top],most⟩ w6):=hid Ep;have k66:w6.heap[wr.heap.size]?=some (.cells #[.int .u8 (t.kind.toNat:Int),.int .i64 (t.fr:Int),.int .i64 (t.to:Int)] 63 (0,0)):=Eq;obtain⟨t60,t61,t62,_⟩:=uA k66;obtain⟨cs,hc1,hc2,hc3⟩:=HS6.out.openB;have hp6:=HS6.out.pairB;have kF:=(HS6.out.bel.block w.heap.size Cf).trans ((Ac w1 (Obj.cells #[.int .i64 0,.int .i64 0] 35) w.heap.size (lt_of_block HC.out.2.1)).trans HC.out.2.1);have HB6:Hid (Below w.heap.size w w6):=hid ((HC.out.2.2.alloc HC.out.2.2.size (Obj.cells #[.int .i64 0,.int .i64 0] 35)).trans (HS6.out.bel.mono Cf));clear hw6;have hcm:=hc3 init.length top Cm;obtain⟨n0,n1⟩:=uF hc2 hcm;have yt:=HQ.out.1 _ _ HS6.out _ _ yy1;obtain⟨i0,i1⟩:=uF hp6 hii;obtain⟨j0,j1⟩:=uF hp6 hpy;have HA6:=hid (HS6.out.put i (top:Int));obtain⟨k0,k1⟩:=uF (x:=py) (i:=top) HA6.out.pairB (by rw [List.getElem?_set_ne hit];exact hpy)));generalize hm:init.length=m at *;have HM:=hid hm;clear hm hsl hPW;go_wp2_with (first|(go_at_call 101;refine (hPW2 _).mono ?_;rintro e w7 ⟨rfl,hw7⟩;replace hw7:=hw7.symm;subst hw7));go_region;go_wp2_with fail;go_roundg (gk - 1)
          case measure=>omega
          case rel=>exact⟨i+1,((pair.set i (-1)).set i (top:Int)).set top (i:Int),init,most,by rw [HM.out],rfl,Cm,Cf,by have h9:=(((HS6.out.put i (top:Int)).put top (i:Int)).pop _ most rfl).later (J' _ _).drew;rw [List.dropLast_concat] at h9;exact h9,HF.out,Ho,by rw [HM.out];omega,hml,fun x hx=>HST2.out x (List.mem_append_left _ hx)⟩
        ·rw [if_pos (.inr hpc)] at hF;have d7:((p2.toNat:Int) != (s[t.fr].toNat:Int))=true:=by
          have:=hbe _ _ hpc
          show (!((p2.toNat:Int)==(s[t.fr].toNat:Int)))=true
          rw [this];rfl
         have HF:=hid hF;clear hF hbe hpc;rcases hcs with d4|⟨d4,d5⟩|⟨d4,d5,d6⟩
         all_goals
          go_upto_region 20 with (first|(go_at_call 101;refine (hPW _).mono ?_;rintro e w6 ⟨rfl,hw6⟩;have HS6:Hid (lE (w1.heap.size+1) w3.heap.size (w1.alloc (Obj.cells #[.int .i64 0,.int .i64 0] 35)) ⟨pair.set i (-1),init++[top],most⟩ w6):=hid Ep;have k66:w6.heap[wr.heap.size]?=some (.cells #[.int .u8 (t.kind.toNat:Int),.int .i64 (t.fr:Int),.int .i64 (t.to:Int)] 63 (0,0)):=Eq;obtain⟨t60,t61,t62,_⟩:=uA k66;obtain⟨cs,hc1,hc2,hc3⟩:=HS6.out.openB;have hp6:=HS6.out.pairB;have kF:=(HS6.out.bel.block w.heap.size Cf).trans ((Ac w1 (Obj.cells #[.int .i64 0,.int .i64 0] 35) w.heap.size (lt_of_block HC.out.2.1)).trans HC.out.2.1);have HB6:Hid (Below w.heap.size w w6):=hid ((HC.out.2.2.alloc HC.out.2.2.size (Obj.cells #[.int .i64 0,.int .i64 0] 35)).trans (HS6.out.bel.mono Cf));clear hw6;have hcm:=hc3 init.length top Cm;obtain⟨n0,n1⟩:=uF hc2 hcm;have yt:=HQ.out.1 _ _ HS6.out _ _ yy1));generalize hm:init.length=m at *;have HM:=hid hm;clear hm hsl hPW;go_wp2_with (first|(go_at_call 101;refine (hPW2 _).mono ?_;rintro e w7 ⟨rfl,hw7⟩;replace hw7:=hw7.symm;subst hw7));obtain⟨f0,f1,g0,g1⟩:=tA kF;have u9:=hid (VD kF (.int .i64 5) (.int .i64 (t.fr:Int)));have HB9:=hid ((HB6.out.setCell (p:=⟨w.heap.size,0,none⟩) (C' _) (.int .i64 5)).setCell (p:=⟨w.heap.size,1,none⟩) (C' _) (.int .i64 (t.fr:Int)));go_region
          all_goals (go_wp2_with fail)
          all_goals
           obtain⟨q0,q1,_⟩:=tA u9.out;generalize (w6.setCell ⟨w.heap.size,0,none⟩ (.int .i64 5)).setCell ⟨w.heap.size,1,none⟩ (.int .i64 (t.fr:Int))=w9 at *;rw [<- HF.out];refine bodyPost_ret (v:=.tuple #[.slice none 0 0,.slice none 0 0,.int .i64 0,qA 5 t.fr]) ?_ rfl ⟨rfl,HB9.out.drew⟩;simp [results,Tryz.results63,go_sem,q0,q1,qA]
      ·rw [if_neg hcl] at hF;have d4:=hbe s[t.fr] 41 (fun h=>hcl (.inl h));have d5:=hbe s[t.fr] 93 (fun h=>hcl (.inr (.inl h)));have d6:=hbe s[t.fr] 125 (fun h=>hcl (.inr (.inr h)));replace d4:((s[t.fr].toNat:Int)==41)=false:=d4;replace d5:((s[t.fr].toNat:Int)==93)=false:=d5;replace d6:((s[t.fr].toNat:Int)==125)=false:=d6;have HF:=hid hF;clear hF hcl hbe;go_wp2_with (go_at_call 101;refine (hPW _).mono ?_;rintro e w6 ⟨rfl,hw6⟩;have HS6:Hid (lE (w1.heap.size+1) w3.heap.size (w1.alloc (Obj.cells #[.int .i64 0,.int .i64 0] 35)) ⟨pair.set i (-1),stk,most⟩ w6):=hid Ep;have k66:w6.heap[wr.heap.size]?=some (.cells #[.int .u8 (t.kind.toNat:Int),.int .i64 (t.fr:Int),.int .i64 (t.to:Int)] 63 (0,0)):=Eq;obtain⟨t60,t61,t62,_⟩:=uA k66;obtain⟨cs,hc1,hc2,hc3⟩:=HS6.out.openB;have hp6:=HS6.out.pairB;have kF:=(HS6.out.bel.block w.heap.size Cf).trans ((Ac w1 (Obj.cells #[.int .i64 0,.int .i64 0] 35) w.heap.size (lt_of_block HC.out.2.1)).trans HC.out.2.1);have HB6:Hid (Below w.heap.size w w6):=hid ((HC.out.2.2.alloc HC.out.2.2.size (Obj.cells #[.int .i64 0,.int .i64 0] 35)).trans (HS6.out.bel.mono Cf));clear hw6;skip);go_roundg (gk - 1)
       case measure=>omega
       case rel=>exact⟨i+1,pair.set i (-1),stk,most,rfl,rfl,Cm,Cf,HS6.out,HF.out,Ho,hsl,hml,hst2⟩
     ·rw [if_pos hp0] at hF;have d3:((p.toNat:Int) != 0)=true:=by
       have:=hbe _ _ hp0
       show (!((p.toNat:Int)==0))=true
       have e:((p.toNat:Int)==0)=false:=this;rw [e];rfl
      by_cases hfull:stk.length=100
      ·rw [if_pos hfull] at hF;have d4:((stk.length:Int)==100)=true:=by rw [hfull];rfl
       have HF:=hid hF;clear hF hbe hst2 hp0 hfull;go_wp2_with (go_at_call 101;refine (hPW _).mono ?_;rintro e w6 ⟨rfl,hw6⟩;have HS6:Hid (lE (w1.heap.size+1) w3.heap.size (w1.alloc (Obj.cells #[.int .i64 0,.int .i64 0] 35)) ⟨pair.set i (-1),stk,most⟩ w6):=hid Ep;have k66:w6.heap[wr.heap.size]?=some (.cells #[.int .u8 (t.kind.toNat:Int),.int .i64 (t.fr:Int),.int .i64 (t.to:Int)] 63 (0,0)):=Eq;obtain⟨t60,t61,t62,_⟩:=uA k66;obtain⟨cs,hc1,hc2,hc3⟩:=HS6.out.openB;have hp6:=HS6.out.pairB;have kF:=(HS6.out.bel.block w.heap.size Cf).trans ((Ac w1 (Obj.cells #[.int .i64 0,.int .i64 0] 35) w.heap.size (lt_of_block HC.out.2.1)).trans HC.out.2.1);have HB6:Hid (Below w.heap.size w w6):=hid ((HC.out.2.2.alloc HC.out.2.2.size (Obj.cells #[.int .i64 0,.int .i64 0] 35)).trans (HS6.out.bel.mono Cf));clear hw6;skip);obtain⟨f0,f1,g0,g1⟩:=tA kF;have u9:=hid (VD kF (.int .i64 6) (.int .i64 (t.fr:Int)));have HB9:=hid ((HB6.out.setCell (p:=⟨w.heap.size,0,none⟩) (C' _) (.int .i64 6)).setCell (p:=⟨w.heap.size,1,none⟩) (C' _) (.int .i64 (t.fr:Int)));go_region
       all_goals (go_wp2_with fail)
       all_goals
        obtain⟨q0,q1,_⟩:=tA u9.out;generalize (w6.setCell ⟨w.heap.size,0,none⟩ (.int .i64 6)).setCell ⟨w.heap.size,1,none⟩ (.int .i64 (t.fr:Int))=w9 at *;rw [<- HF.out];refine bodyPost_ret (v:=.tuple #[.slice none 0 0,.slice none 0 0,.int .i64 0,qA 6 t.fr]) ?_ rfl ⟨rfl,HB9.out.drew⟩;simp [results,Tryz.results63,go_sem,q0,q1,qA]
      ·rw [if_neg hfull] at hF;have hlt:stk.length < 100:=by omega
       have d4:((stk.length:Int)==100)=false:=Cn
       have hmx:max (most:Int) ((stk.length:Int)+1)=((max most (stk.length+1):Nat):Int):=Cf
       have hmx2:max most (stk.length+1)<=100:=Cf
       have HF:=hid hF;clear hF hbe hp0 hfull;go_wp2_with (go_at_call 101;refine (hPW _).mono ?_;rintro e w6 ⟨rfl,hw6⟩;have HS6:Hid (lE (w1.heap.size+1) w3.heap.size (w1.alloc (Obj.cells #[.int .i64 0,.int .i64 0] 35)) ⟨pair.set i (-1),stk,most⟩ w6):=hid Ep;have k66:w6.heap[wr.heap.size]?=some (.cells #[.int .u8 (t.kind.toNat:Int),.int .i64 (t.fr:Int),.int .i64 (t.to:Int)] 63 (0,0)):=Eq;obtain⟨t60,t61,t62,_⟩:=uA k66;obtain⟨cs,hc1,hc2,hc3⟩:=HS6.out.openB;have hp6:=HS6.out.pairB;have kF:=(HS6.out.bel.block w.heap.size Cf).trans ((Ac w1 (Obj.cells #[.int .i64 0,.int .i64 0] 35) w.heap.size (lt_of_block HC.out.2.1)).trans HC.out.2.1);have HB6:Hid (Below w.heap.size w w6):=hid ((HC.out.2.2.alloc HC.out.2.2.size (Obj.cells #[.int .i64 0,.int .i64 0] 35)).trans (HS6.out.bel.mono Cf));clear hw6;obtain⟨yc,hyc⟩:∃ y,cs[stk.length]?=some y:=⟨_,M' Cf⟩;obtain⟨n0,n1⟩:=uF hc2 hyc);go_roundg (gk - 1)
       case measure=>omega
       case rel=>exact⟨i+1,pair.set i (-1),stk++[i],max most (stk.length+1),Cm,by first|rfl|rw [hmx],Cm,Cf,HS6.out.push i _ hlt,HF.out,Ho,Cn,hmx2,fun x hx=>by
        rw [List.mem_append,List.mem_singleton] at hx;rcases hx with hx|rfl
        ·exact hst2 x hx
        ·exact⟨Cf,t,ht,hfr⟩⟩
   ·have d0:decide ((i:Int) < (l.length:Int))=false:=by simpa using hi
    rw [List.drop_of_length_le Cf,rF] at hF;simp only [] at hF;have hB9:Below w.heap.size w wr:=(HC.out.2.2.alloc HC.out.2.2.size (Obj.cells #[.int .i64 0,.int .i64 0] 35)).trans (hS.bel.mono Cf);have hb1:Below w1.heap.size w1 wr:=((J' w1.heap.size w1).alloc (C' _) (Obj.cells #[.int .i64 0,.int .i64 0] 35)).trans (hS.bel.mono Cf);have kF:=(hS.bel.block w.heap.size Cf).trans ((Ac w1 (Obj.cells #[.int .i64 0,.int .i64 0] 35) w.heap.size (lt_of_block HC.out.2.1)).trans HC.out.2.1);obtain⟨f0,f1,g0,g1⟩:=tA kF;rcases List.eq_nil_or_concat stk with hsk|⟨init,top,hsk⟩
    ·subst hsk;rw [if_pos rfl] at hF;have hip:(nG pair).length=pair.length:=by simp [nG]
     have hrp:wr.ownsRow (w1.heap.size+1) 3 1 (.slice (some ⟨w1.heap.size+1,0,none⟩) l.length l.length) pair.length (nG pair):=by
      refine⟨by rw [hip,Nat.mul_one],.inr ⟨w1.heap.size+1,l.length,(nG pair).toArray,by rw [hpl],C' _,hS.pairB,Cf,Cu,by simp [hip,hpl],?_⟩⟩;rw [List.toList_toArray,Ar (by rw [hip];omega)]
     have HRP:=hid (And.intro (LD HC.out.1 hb1) (And.intro hrp hB9));have HF:=hid hF;clear hF hS hrp hB9 hb1 hst;go_wp2_with fail;rw [<- HF.out];have u9:=VD kF (.int .i64 0) (.int .i64 0);have HB9:=hid ((HRP.out.2.2.setCell (p:=⟨w.heap.size,0,none⟩) (C' _) (.int .i64 0)).setCell (p:=⟨w.heap.size,1,none⟩) (C' _) (.int .i64 0));have HO8:=hid (rA (rA HRP.out.1 ⟨w.heap.size,0,none⟩ (by have:=HL0.out;simp;omega) (.int .i64 0)) ⟨w.heap.size,1,none⟩ (by have:=HL0.out;simp;omega) (.int .i64 0));have HO9:=hid (rA (rA HRP.out.2.1 ⟨w.heap.size,0,none⟩ Cn (.int .i64 0)) ⟨w.heap.size,1,none⟩ Cn (.int .i64 0));obtain⟨q0,q1,_⟩:=tA u9;generalize (wr.setCell ⟨w.heap.size,0,none⟩ (.int .i64 0)).setCell ⟨w.heap.size,1,none⟩ (.int .i64 0)=w9 at *;refine bodyPost_ret (v:=.tuple #[.slice va l.length vc,.slice (some ⟨w1.heap.size+1,0,none⟩) l.length l.length,.int .i64 (most:Int),qA 0 0]) ?_ rfl ⟨_,_,rfl,jE HO8.out (by have:=HL0.out;omega),jE HO9.out Cf,HB9.out⟩;simp [results,Tryz.results63,go_sem,q0,q1,qA]
    ·(try rw [List.concat_eq_append] at hsk)
     subst hsk;obtain⟨htop,u,hu,hufr⟩:=hst top Cm;rw [if_neg Cm] at hF;have hgt:(⟨pair,init++[top],most⟩:vH).top=top:=by simp [vH.top]
     rw [hgt] at hF;have htf:vQ l top=u.fr:=by unfold vQ;rw [hu];rfl
     rw [htf] at hF;obtain⟨v0,v1,v2⟩:=lH hu;obtain⟨b2,e2,hb2l,hbl2,yy1⟩:=GA HC.out.1 v1;subst e2;have yt:wr.cell? ⟨b2,top*3+1,none⟩=some (.int .i64 (u.fr:Int)):=(hb1.cell (p:=⟨b2,top*3+1,none⟩) hbl2).trans yy1;have hil:init.length < 100:=by simp at hsl;omega
     obtain⟨cs,hc1,hc2,hc3⟩:=hS.openB;have hcm:=hc3 init.length top Cm;obtain⟨n0,n1⟩:=uF hc2 hcm;have htl:top < l.length:=Cf
     have HB6:=hid hB9;have HF:=hid hF;clear hF hS hst hgt htf hu v0 v1 v2 yy1 hb1 hB9 hc3 hcm hsl;have hln:(init++[top]).length=init.length+1:=Cm
     rw [hln];clear hln;generalize hm:init.length=m at *;clear hm;have hwm2:IntKind.i64.wrap (m:Int)=(m:Int):=IntWalk.i64_in _ Cf;have hmi:(m:Int) < 100:=Cf
     have htli:(top:Int) < (l.length:Int):=Cf
     go_wp2_with fail;have u9:=hid (VD kF (.int .i64 5) (.int .i64 (u.fr:Int)));have HB9:=hid ((HB6.out.setCell (p:=⟨w.heap.size,0,none⟩) (C' _) (.int .i64 5)).setCell (p:=⟨w.heap.size,1,none⟩) (C' _) (.int .i64 (u.fr:Int)));have far:∀ b o v,b≠w.heap.size->wr.cell? ⟨b,o,none⟩=some v->((wr.setCell ⟨w.heap.size,0,none⟩ (.int .i64 5)).setCell ⟨w.heap.size,1,none⟩ (.int .i64 (u.fr:Int))).cell? ⟨b,o,none⟩=some v:=fun b o v hb h=>(World.cell?_setCell_far _ ⟨w.heap.size,1,none⟩ ⟨b,o,none⟩ _ (fun e=>hb e.symm)).trans ((World.cell?_setCell_far _ ⟨w.heap.size,0,none⟩ ⟨b,o,none⟩ _ (fun e=>hb e.symm)).trans h)
     have s0:=far _ _ _ Cf n0;have s1:=far _ _ _ (by have:=HL0.out;omega) yt;refine wp_region_held_drew (S:=fun w'=>w'.cell? ⟨w3.heap.size,m,none⟩=some (.int .i64 (top:Int))/\w'.cell? ⟨b2,top*3+1,none⟩=some (.int .i64 (u.fr:Int))) Ci ?_ (fun hHeld=>?_)
     ·exact Bm
     refine tk 0 ?_;try simp only [Act.put,ls]
     refine tk 1 ?_;try simp only [Act.put,ls]
     refine tk 2 ?_;try simp only [Act.put,ls]
     refine tk 3 ?_;try simp only [Act.put,ls]
     refine tk 4 ?_;try simp only [Act.put,ls]
     refine tk 5 ?_;try simp only [Act.put,ls]
     refine tk 6 ?_;try simp only [Act.put,ls]
     refine tk 7 ?_;try simp only [Act.put,ls]
     refine tk 8 ?_;try simp only [Act.put,ls]
     refine tk 9 ?_;try simp only [Act.put,ls]
     refine tk 10 ?_;try simp only [Act.put,ls]
     refine tk 11 ?_;try simp only [Act.put,ls]
     refine wpAnyH_ready (rs:=[12]) Ci Cm (AllReadyH.cons (o:=?_) ?_ (fun K hK=>?_) AllReadyH.nil)
     rotate_left
     ·exact Ax
     go_simp;go_wp2_with fail;refine hK.out _ _ ?_ (fun hHeld12=>?_)
     ·exact Bm
     clear hK K
     try simp only [Act.put,N',Q',S']
     refine wpAnyH_done Ci ?_ _;go_wp2_with fail;obtain⟨q0,q1,_⟩:=tA u9.out;generalize (wr.setCell ⟨w.heap.size,0,none⟩ (.int .i64 5)).setCell ⟨w.heap.size,1,none⟩ (.int .i64 (u.fr:Int))=w9 at *;rw [<- HF.out];refine bodyPost_ret (v:=.tuple #[.slice none 0 0,.slice none 0 0,.int .i64 0,qA 5 u.fr]) ?_ rfl ⟨rfl,HB9.out.drew⟩;simp [results,Tryz.results63,go_sem,q0,q1,qA]
end
