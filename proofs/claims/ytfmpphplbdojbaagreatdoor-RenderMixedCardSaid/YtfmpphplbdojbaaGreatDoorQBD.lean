import Derived.Test.YtfmpphplbdojbaaGreatDoorQBC
import Derived.Test.YtfmpphplbdojbaaGreatDoorQAF
import Derived.Deep.LoopGhost
import Derived.BigQuiet
namespace Go.Proofs.YtfmpphplbdojbaaGreatDoor
open Lib(hid)
set_option linter.all false
set_option maxHeartbeats 40000000
set_option maxRecDepth 100000
section
open Go.RowKit
variable {w w':World}
def tU (wS:World) (Bp:Nat):Nat->Prop:=fun b=>b < wS.heap.size/\b≠Bp
theorem fR {D:Nat->Prop}{q:Nat}{k:UInt8}{wd:Int}{f t:Nat}{ks:List Tr} (h:nA w D q (.mk k wd f t ks)):∃ ka cap ps,w.heap[q]?=some (.cells #[.int .u8 (k.toNat:Int),.int .i64 wd,.int .i64 (f:Int),.int .i64 (t:Int),.slice ka ks.length cap] 61 (0,0))/\D q/\nJ w D ka ps/\fA w D ps ks:=by
 obtain⟨h1,ka,cap,ps,h2,h3,h4⟩:=h;exact⟨ka,cap,ps,h2,h1,h3,h4⟩
theorem QP {N:List UInt8->uH} (HN:LJ N) {goal:UInt8}{s:List UInt8}{e a:Nat} (h:tD N goal s=.bad e a):e≠0:=by
 unfold tD at h;split at h
 ·cases h;decide
 ·split at h
  ·rename_i hN;cases h;exact HN.bad _ _ _ hN
  ·split at h
   ·exact C4
   ·cases h;decide
   ·rename_i hT;exact absurd hT kQ
theorem UM {N:List UInt8->uH} (HN:LJ N) {goal:UInt8}{s:List UInt8}{l:List Tk}{t:Tr} (h:tD N goal s=.ok l t):cnt t<=20000005:=by
 unfold tD at h;split at h
 ·exact C4
 ·split at h
  ·exact C4
  ·rename_i l p hN;split at h
   ·rename_i t m hT;cases h;have h1:=VT hT;have h2:=(HN.fit _ _ _ hN).small;simp only at h1;omega
   ·exact C4
   ·exact C4
theorem GD {X:List Nat}{w0 w1 w2:World} (h:Fr X w1 w2) (hb:Below w0.heap.size w0 w1) (hX:∀ x∈X,w0.heap.size<=x):Below w0.heap.size w0 w2 :=
 hb.trans ⟨h.os,h.tape,h.output,h.size,fun k hk=>h.block k Iu (fun m=>by have:=hX k m;omega)⟩
theorem ON {b:Nat}{x y:Value}{T:TypeId} (h:w.heap[b]?=some (.cells #[x,y] T (0,0))) (x' y':Value):((w.setCell ⟨b,0,none⟩ x').setCell ⟨b,1,none⟩ y').heap[b]?=some (.cells #[x',y'] T (0,0))/\Fr [b] w ((w.setCell ⟨b,0,none⟩ x').setCell ⟨b,1,none⟩ y'):=by
 have s2:=heap_setCell_same (w.setCell ⟨b,0,none⟩ x') b 1 _ _ y' (heap_setCell_same w b 0 _ _ x' h);simp only [N',Q',S'] at s2;exact⟨s2,(NA b 0 w _).trans (NA b 1 _ _)⟩
theorem YB {b:Nat}{x y:Value}{T:TypeId} (h:w.heap[b]?=some (.cells #[x,y] T (0,0))):w.cell? ⟨b,0,none⟩=some x/\w.cell? ⟨b,1,none⟩=some y/\w.frozen? ⟨b,0,none⟩=false/\w.frozen? ⟨b,1,none⟩=false:=by
 refine⟨?_,?_,?_,?_⟩ <;> simp [World.cell?,World.frozen?,h]
end
section
open Go.RowKit
variable {w w':World}
theorem Tryz.infoPt:(Tryz.prog.info? 46).map (fun i=>(i.zero,i.size,i.bytes))=some (some (.agg #[.int .u8 0,.int .i64 0,.string ⟨#[]⟩]),3,32):=Ci
def AH (wS:World) (Bo:Nat) (l:List Pt3) (w:World):Prop :=
 ∃ v,w.heap[Bo]?=some (.cells #[v] 22 (0,0))/\w.ownsRow wS.heap.size 46 3 v l.length (CF l)/\Fr [Bo] wS w
theorem AH.below {wS w w':World}{Bo:Nat}{l:List Pt3} (hBo:Bo < wS.heap.size) (h:AH wS Bo l w) (hb:Below w.heap.size w w'):AH wS Bo l w':=by
 obtain⟨v,h1,h2,h3⟩:=h;exact⟨v,(hb.block _ (Af hBo h3.size)).trans h1,CD h2 (Fr.below (X:=[]) hb) Cm,h3.trans (Fr.below hb)⟩
theorem AH.drew {wS w:World}{Bo:Nat}{l:List Pt3} (h:AH wS Bo l w):AH wS Bo l w.drew:=by
 obtain⟨v,h1,h2,h3⟩:=h;exact⟨v,h1,h2.drew,h3.trans (Fr.below (J' _ _).drew)⟩
theorem kN {wS w w2:World}{Bo:Nat}{l:List Pt3}{x:Pt3}{v:Value}{O:Obj}{gg cap2:Nat} (hBo:Bo < wS.heap.size) (hF:Fr [Bo] wS w) (hp:w.heap[Bo]?=some (.cells #[v] 22 (0,0))) (hown:w.ownsRow wS.heap.size 46 3 v l.length (CF l))
  (hg:(w.alloc O).drew.grownBy w2 v.ownBlock) (ho:w2.ownsRow wS.heap.size 46 3 (.slice (some ⟨gg,0,none⟩) (l.length+1) cap2) (l.length+1) (CF l++TJ x)) :
  AH wS Bo (l++[x]) (w2.setCell ⟨Bo,0,none⟩ (.slice (some ⟨gg,0,none⟩) (l.length+1) cap2)):=by
 have hs:=hF.size;have hlt:Bo < w.heap.size:=Cf
 have hB:=((J' w.heap.size w).alloc (C' _) O).drew;have hoc:v.ownBlock≠some Bo:=fun e=>by have:=(hown.lt Bo e).1;omega
 have h2:w2.heap[Bo]?=some (.cells #[v] 22 (0,0)):=(hg.block Bo Iv (fun e=>hoc e.symm)).trans ((hB.block Bo hlt).trans hp);have hX:Fr (YD v) (w.alloc O).drew w2:=Fr.grown hg (fun k hk=>Hw);have hXm:∀ i∈YD v,wS.heap.size<=i:=by
  intro i hi;unfold YD at hi;split at hi
  ·rename_i b2 hb2;simp at hi;subst hi;exact (hown.lt _ hb2).1
  ·simp at hi
 have h3:=heap_setCell_same w2 Bo 0 _ _ (.slice (some ⟨gg,0,none⟩) (l.length+1) cap2) h2;simp only [N',Q'] at h3;have hgg:=(ho.lt gg rfl).1;refine⟨_,h3,?_,((hF.trans (Fr.below hB)).trans' hX (fun i hi=>.inr (hXm i hi))).trans (NA Bo 0 w2 _)⟩;rw [mR,O'];exact CD ho (NA Bo 0 w2 _) (fun b hb e=>by simp at hb;have e2:gg=b:=Option.some.inj e;omega)
structure TR (E:Ev) (wS:World) (c B3 B6 B9 Bo Bw:Nat):Prop where
 lt:Bo < wS.heap.size
 s:wS.cell? ⟨B3,0,none⟩=some (.string ⟨E.s.toArray⟩)
 t:wS.cell? ⟨B6,0,none⟩=some (.slice E.ta E.l.length E.tcap)
 r:wS.cell? ⟨B9,0,none⟩=some (.pointer (some ⟨c,0,none⟩))
 f:wS.cell? ⟨Bw,0,none⟩=some (.func (.func 28) #[] #[.pointer (some ⟨B3,0,none⟩),.pointer (some ⟨B6,0,none⟩),.pointer (some ⟨B9,0,none⟩),.pointer (some ⟨Bo,0,none⟩),.pointer (some ⟨Bw,0,none⟩)])
 c0:wS.cell? ⟨c,0,none⟩=some (.string ⟨E.s.toArray⟩)
 c1:wS.cell? ⟨c,1,none⟩=some (.slice E.ta E.l.length E.tcap)
 lie:Lie E c wS
 ne:B3≠Bo/\B6≠Bo/\B9≠Bo/\Bw≠Bo/\c<=Bo/\c≠Bo
theorem NS {E:Ev}{wS w:World}{c B3 B6 B9 Bo Bw:Nat}{l:List Pt3} (HT:TR E wS c B3 B6 B9 Bo Bw) (hP:AH wS Bo l w) (i:Int) :
  Calls Tryz.prog 29 #[.pointer (some ⟨c,0,none⟩),.int .i64 i] w fun e w'=>e=.returned (.string ⟨(E.toEnv.word i).toArray⟩)/\Below w.heap.size w w':=by
 obtain⟨_,_,_,hF⟩:=hP;exact BH E c i w (hF.cell (by simpa using HT.ne.2.2.2.2.2) HT.c0) (hF.cell (by simpa using HT.ne.2.2.2.2.2) HT.c1) (HT.lie.later hF (fun k hk=>by simp at hk;have:=HT.ne.2.2.2.2.1;omega))
theorem AU {E:Ev}{wS:World}{c B3 B6 B9 Bo Bw:Nat} (HT:TR E wS c B3 B6 B9 Bo Bw) :
  ∀ (n:Nat) (t:Tr),cnt t<=n->∀ (q:Nat) (l:List Pt3) (w:World),nA wS (tU wS Bo) q t->Sp E.toEnv t->AH wS Bo l w->l.length+cnt t<=1000000000 ->
   Calls Tryz.prog 28 #[.pointer (some ⟨q,0,none⟩),.pointer (some ⟨B3,0,none⟩),.pointer (some ⟨B6,0,none⟩),.pointer (some ⟨B9,0,none⟩),.pointer (some ⟨Bo,0,none⟩),.pointer (some ⟨Bw,0,none⟩)] w (fun e w'=>e=.returned (.tuple #[])/\AH wS Bo (l++parts E.toEnv t) w'):=by
 intro n
 induction n with
 | zero=>intro t ht;have:=YR t;omega
 | succ n ih =>
  intro t ht q l w hT hsp hP hl;obtain⟨k,wd,f,te,ks⟩:=t;have IH:=hid ih;have HT:=hid HT;clear ih;obtain⟨ka,cap,ps,hq,hD,hrow,htr⟩:=fR hT;obtain⟨hsp1,hsp2⟩:=hsp;have hwl:=pR hsp1;have hst:∀ {l9:List Pt3}{wx:World}{a:Addr}{v:Value},AH wS Bo l9 wx->a.block≠Bo->wS.cell? a=some v->wx.cell? a=some v:=fun h ha hv=>by
   obtain⟨_,_,_,hF⟩:=h;exact hF.cell (by simpa using ha) hv
  have q0:wS.cell? ⟨q,0,none⟩=some (.int .u8 (k.toNat:Int)):=Iw
  have q1:wS.cell? ⟨q,1,none⟩=some (.int .i64 wd):=Iw
  have q4:wS.cell? ⟨q,4,none⟩=some (.slice ka ks.length cap):=Iw
  have HQ:=hid (And.intro hD.2 (And.intro hD.1 (And.intro q0 (And.intro q1 q4))));have HST:Hid (∀ (l9:List Pt3) (wx:World) (a:Addr) (v:Value),AH wS Bo l9 wx->a.block≠Bo->wS.cell? a=some v->wx.cell? a=some v):=fun _ _ _ _ h ha hv=>hst h ha hv
  have HTT:=hid (And.intro hrow (And.intro htr (And.intro ht (And.intro hl hsp2))));clear hst hrow htr ht hl hT hD hq q0 q1 q4 hsp1 hsp2;have HP:=hid hP;have q1:=HST.out _ _ ⟨q,1,none⟩ _ hP HQ.out.1 HQ.out.2.2.2.1;clear hP;go_enter Tryz.func28,Tryz.ntmps28
  go_upto_if 14 with fail
  go_cut [7] from 10 (fun s7 wx=>s7=.string ⟨(E.toEnv.text wd).toArray⟩/\AH wS Bo l wx)
  case first =>
   rcases hwl with rfl|⟨m,rfl,hm⟩
   ·go_wp2_with fail
    go_meet
    case rel=>exact⟨rfl,HP.out⟩
   ·have hd:decide ((0:Int)<=(m:Int))=true:=by simp
    obtain⟨t9,ht9⟩:∃ t9,E.l[m]?=some t9:=⟨_,M' hm⟩;obtain⟨b9,o9,hta,hb9,k0,k1,k2⟩:=HT.out.lie.toks m t9 ht9;obtain⟨f1,f2⟩:=HT.out.lie.fits t9 (List.mem_of_getElem? ht9);have hs3:=HST.out _ _ ⟨B3,0,none⟩ _ HP.out HT.out.ne.1 HT.out.s;have ht6:=HST.out _ _ ⟨B6,0,none⟩ _ HP.out HT.out.ne.2.1 HT.out.t;have k1':=HST.out _ _ ⟨b9,o9+m*3+1,none⟩ _ HP.out Gq k1;have k2':=HST.out _ _ ⟨b9,o9+m*3+2,none⟩ _ HP.out Gq k2;rw [hta] at ht6;have g0:(0:Int)<=(t9.fr:Int):=Cf
    have g1:(t9.fr:Int)<=(t9.to:Int):=Cf
    have g2:(t9.to:Int)<=(E.s.length:Int):=Cf
    have b0:(0:Int)<=(m:Int):=Cf
    have b1:(m:Int) < (E.l.length:Int):=Cf
    have HX:Hid (E.toEnv.text (m:Int)=(E.s.take t9.to).drop t9.fr):=by
     show (if (m:Int) < 0 then [] else match E.l[(m:Int).toNat]? with|some t=>(E.s.take t.to).drop t.fr|none=>[])=_
     rw [if_neg Cf];simp only [Ae,ht9]
    clear k0 k1 k2 hm f1 f2 ht9 hta hb9;go_wp2_with fail;go_big_quiet (fail);go_wp2_with fail
    go_meet
    case rel=>exact⟨by rw [HX.out,List.drop_take];try simp [ByteArray.extract_mk],HP.out.below HT.out.lt (below_drewN (J' _ _) _)⟩
  case rest =>
   clear q1 HP;obtain⟨rfl,hP⟩:=hcut;have HP:=hid hP;have q0:=HST.out _ _ ⟨q,0,none⟩ _ hP HQ.out.1 HQ.out.2.2.1;have q1:=HST.out _ _ ⟨q,1,none⟩ _ hP HQ.out.1 HQ.out.2.2.2.1;have r9:=HST.out _ _ ⟨B9,0,none⟩ _ hP HT.out.ne.2.2.1 HT.out.r;clear hP;have hwd:wd=-1∨((0:Int)<=wd/\wd<=1099511627776):=hwl.imp id (fun⟨m,e,h⟩=>by have:=HT.out.lie.small;omega);have hwr:IntKind.i64.wrap (wd+1)=wd+1:=Cs
   clear hwl hwd
   go_upto_if 37 with fail
   go_cut [7] from 10 (fun s7 wx=>s7=.string ⟨(lD E.toEnv k wd).toArray⟩/\AH wS Bo l wx)
   case first =>
    by_cases k45:k=45
    ·subst k45;cases h1:(E.toEnv.text wd==[60,45]) with
     | true =>
      go_wp2_with fail
      go_meet
      case rel=>exact⟨by unfold lD;rw [if_pos rfl,if_pos (eq_of_beq h1)],HP.out⟩
     | false =>
      go_wp2_with fail;cases h2:(E.toEnv.word (wd+1)==[60,45]) with
      | true =>
       go_region_held3 (fun w'=>w'.cell? ⟨q,1,none⟩=some (.int .i64 wd)/\w'.cell? ⟨B9,0,none⟩=some (.pointer (some ⟨c,0,none⟩))) (first|exact⟨Db,Db⟩|exact⟨aA hb5 q1,aA hb5 r9⟩) (first|(go_at_call 29;refine (NS HT.out HP.out.drew (wd+1)).mono ?_;rintro e w5 ⟨rfl,hb5⟩;have HP5:=hid (HP.out.drew.below HT.out.lt hb5)))
       go_wp2_with fail
       go_meet
       case rel=>exact⟨by unfold lD;rw [if_pos rfl,if_neg (fun e=>He),if_pos (eq_of_beq h2)],HP5.out⟩
      | false =>
       go_region_held3 (fun w'=>w'.cell? ⟨q,1,none⟩=some (.int .i64 wd)/\w'.cell? ⟨B9,0,none⟩=some (.pointer (some ⟨c,0,none⟩))) (first|exact⟨Db,Db⟩|exact⟨aA hb5 q1,aA hb5 r9⟩) (first|(go_at_call 29;refine (NS HT.out HP.out.drew (wd+1)).mono ?_;rintro e w5 ⟨rfl,hb5⟩;have HP5:=hid (HP.out.drew.below HT.out.lt hb5)))
       go_wp2_with fail
       go_meet
       case rel=>exact⟨by unfold lD;rw [if_pos rfl,if_neg (fun e=>He),if_neg (fun e=>by rw [e] at h2;exact absurd h2 Ch)],HP5.out⟩
    ·have dk:(((k.toNat:Nat):Int)==45)=false:=OK (goal:=k) (k:=45) k45 Cf;go_wp2_with fail
     go_meet
     case rel=>exact⟨by unfold lD;rw [if_neg k45],HP.out⟩
   case rest =>
    clear q0 q1 r9 HP hwr;obtain⟨rfl,hP⟩:=hcut;have q0:=HST.out _ _ ⟨q,0,none⟩ _ hP HQ.out.1 HQ.out.2.2.1;have q4:=HST.out _ _ ⟨q,4,none⟩ _ hP HQ.out.1 HQ.out.2.2.2.2;obtain⟨v,hp,hown,hF⟩:=hP;obtain⟨va,vc,rfl⟩:=xB hown;obtain⟨w,hw⟩:∃ w,w=wc:=⟨_,rfl⟩;subst hw;have p1:w.cell? ⟨Bo,0,none⟩=some (.slice va l.length vc):=by simp [World.cell?,hp]
    have pf:w.frozen? ⟨Bo,0,none⟩=false:=by simp [World.frozen?,hp]
    obtain⟨iN,hiN,hz0,hz1,hz2⟩:=info_parts Tryz.infoPt;have hBo:=HT.out.lt;have hlt:Bo < w.heap.size:=Af hBo hF.size;have hoc:(Value.slice va l.length vc).ownBlock≠some Bo:=fun e=>by have:=(hown.lt Bo e).1;omega
    have hpc:∀ o,(w.alloc o).cell? ⟨Bo,0,none⟩=some (.slice va l.length vc):=fun o=>by rw [((J' w.heap.size w).alloc (C' _) o).cell hlt];exact p1
    have hpz:∀ o,(w.alloc o).frozen? ⟨Bo,0,none⟩=false:=fun o=>by rw [World.frozen?_alloc_old _ _ _ Cn];exact pf
    have hqlt:q < w.heap.size:=Af HQ.out.2.1 hF.size;have hqo:(Value.slice va l.length vc).ownBlock≠some q:=fun e=>by have:=(hown.lt q e).1;have:=HQ.out.2.1;omega
    have hqp:Bo≠q:=fun e=>HQ.out.1 e.symm
    have pA:=hpc (.cells #[.int .u8 (k.toNat:Int),.int .i64 (ks.length:Int),.string ⟨(lD E.toEnv k wd).toArray⟩] 46);have hal:∀ (i:Nat) (o:Obj),(w.alloc o).drew.cell? ⟨q,i,none⟩=w.cell? ⟨q,i,none⟩:=fun i o=>World.cell?_of_block (a:=⟨q,i,none⟩) (((J' w.heap.size w).alloc (C' _) o).drew.block q hqlt)
    have hsz:wS.heap.size<=w.heap.size:=hF.size;have hlb:l.length<=1000000000:=by have:=HTT.out.2.2.2.1;omega
    go_upto_region 8 with fail
    go_cut [] from 10 (fun wx=>AH wS Bo (l++[⟨k,ks.length,lD E.toEnv k wd⟩]) wx)
    case first =>
     refine wp_region_held_drew (S:=fun w'=>w'.cell? ⟨q,0,none⟩=some (.int .u8 (k.toNat:Int))/\w'.cell? ⟨q,4,none⟩=some (.slice ka ks.length cap)) Ci ?_ (fun hHeld=>?_)
     ·exact Ay
     refine tk 1 ?_;try simp only [Act.put,ls]
     refine tk 2 ?_;try simp only [Act.put,ls]
     refine tk 3 ?_;try simp only [Act.put,ls]
     refine tk 4 ?_;try simp only [Act.put,ls]
     refine tk 5 ?_;try simp only [Act.put,ls]
     refine tk 6 ?_;try simp only [Act.put,ls]
     refine tk 7 ?_;try simp only [Act.put,ls]
     refine tk 8 ?_;try simp only [Act.put,ls]
     refine tk 9 ?_;try simp only [Act.put,ls]
     refine tk 10 ?_;try simp only [Act.put,ls]
     refine tk 11 ?_;try simp only [Act.put,ls]
     refine wpAnyH_ready (rs:=[0,12]) Ci Cm (AllReadyH.cons (o:=?_) ?_ (fun K hK=>?_) (AllReadyH.cons (o:=?_) ?_ (fun K hK=>?_) AllReadyH.nil))
     rotate_left
     ·exact Ax
     rotate_left 2
     ·exact Ax
     ·skip
      go_simp;go_wp2_with fail;refine hK.out _ _ ?_ (fun hHeld12=>?_)
      ·exact Ay
      clear hK K
      try simp only [Act.put,N',Q',S']
      refine wpAnyH_ready (rs:=[0]) Ci Cm (AllReadyH.cons (o:=?_) ?_ (fun K hK=>?_) AllReadyH.nil)
      rotate_left
      ·exact Ax
      go_simp;go_wp2_with fail;refine hK.out _ _ ?_ (fun hHeld0=>?_)
      ·exact Ay
      clear hK K
      try simp only [Act.put,N',Q',S']
      refine wpAnyH_ready (rs:=[13]) Ci Cm (AllReadyH.cons (o:=?_) ?_ (fun K hK=>?_) AllReadyH.nil)
      rotate_left
      ·exact Ax
      refine step_append_lies _ Ct _ _ _ Ct wS.heap.size 46 iN _ 3 32 Tryz.underlying22 hiN hz0 hz1 hz2 rfl Cf (.slice va l.length vc) l.length (CF l) Ct ((hown.alloc _).drew) ⟨w.heap.size,0,none⟩ 1 1 (TJ ⟨k,ks.length,lD E.toEnv k wd⟩) Ct Ct (Aq (cs:=(TJ ⟨k,ks.length,lD E.toEnv k wd⟩).toArray) (t:=46) (fr:=(0,0)) (heap_alloc_new w _)) (by simp [TJ,Value.oneCell']) Cf Cu Cf Cn (w.heap.size+1) Cm ?_;intro gg cap2 w2 hown2 hgrow2 hat2 hlt2;have k2:w2.cell? ⟨Bo,0,none⟩=some (.slice va l.length vc):=(hgrow2.cell_far _ Cn (Ne.symm hoc)).trans (hpc _);have z2:w2.frozen? ⟨Bo,0,none⟩=false:=(hgrow2.frozen_far _ Cn (Ne.symm hoc)).trans (hpz _);have hap:∀ i:Nat,w2.cell? ⟨q,i,none⟩=w.cell? ⟨q,i,none⟩:=fun i=>(hgrow2.cell_far ⟨q,i,none⟩ Cn (Ne.symm hqo)).trans (hal i _)
      have hst:∀ i:Nat,(w2.setCell ⟨Bo,0,none⟩ (.slice (some ⟨gg,0,none⟩) (l.length+1) cap2)).cell? ⟨q,i,none⟩=w.cell? ⟨q,i,none⟩:=fun i=>(World.cell?_setCell_far w2 ⟨Bo,0,none⟩ ⟨q,i,none⟩ _ hqp).trans (hap i)
      have HPS:=hid (kN (x:=⟨k,ks.length,lD E.toEnv k wd⟩) hBo hF hp hown hgrow2 hown2);clear hgrow2 hown2;refine hK.out _ _ ?_ (fun hHeld13=>?_)
      ·exact Ay
      clear hK K
      try simp only [Act.put,N',Q',S']
      refine wpAnyH_ready (rs:=[14]) Ci Cm (AllReadyH.cons (o:=?_) ?_ (fun K hK=>?_) AllReadyH.nil)
      rotate_left
      ·exact Ax
      go_simp;go_wp2_with fail;refine hK.out _ _ ?_ (fun hHeld14=>?_)
      ·exact Ay
      clear hK K
      try simp only [Act.put,N',Q',S']
      refine wpAnyH_done Ci ?_ _;go_wp2_with fail
      go_meet
      case rel=>exact HPS.out
     ·skip
      go_simp;go_wp2_with fail;refine hK.out _ _ ?_ (fun hHeld0=>?_)
      ·exact Ay
      clear hK K
      try simp only [Act.put,N',Q',S']
      refine wpAnyH_ready (rs:=[12]) Ci Cm (AllReadyH.cons (o:=?_) ?_ (fun K hK=>?_) AllReadyH.nil)
      rotate_left
      ·exact Ax
      go_simp;go_wp2_with fail;refine hK.out _ _ ?_ (fun hHeld12=>?_)
      ·exact Ay
      clear hK K
      try simp only [Act.put,N',Q',S']
      refine wpAnyH_ready (rs:=[13]) Ci Cm (AllReadyH.cons (o:=?_) ?_ (fun K hK=>?_) AllReadyH.nil)
      rotate_left
      ·exact Ax
      refine step_append_lies _ Ct _ _ _ Ct wS.heap.size 46 iN _ 3 32 Tryz.underlying22 hiN hz0 hz1 hz2 rfl Cf (.slice va l.length vc) l.length (CF l) Ct ((hown.alloc _).drew) ⟨w.heap.size,0,none⟩ 1 1 (TJ ⟨k,ks.length,lD E.toEnv k wd⟩) Ct Ct (Aq (cs:=(TJ ⟨k,ks.length,lD E.toEnv k wd⟩).toArray) (t:=46) (fr:=(0,0)) (heap_alloc_new w _)) (by simp [TJ,Value.oneCell']) Cf Cu Cf Cn (w.heap.size+1) Cm ?_;intro gg cap2 w2 hown2 hgrow2 hat2 hlt2;have k2:w2.cell? ⟨Bo,0,none⟩=some (.slice va l.length vc):=(hgrow2.cell_far _ Cn (Ne.symm hoc)).trans (hpc _);have z2:w2.frozen? ⟨Bo,0,none⟩=false:=(hgrow2.frozen_far _ Cn (Ne.symm hoc)).trans (hpz _);have hap:∀ i:Nat,w2.cell? ⟨q,i,none⟩=w.cell? ⟨q,i,none⟩:=fun i=>(hgrow2.cell_far ⟨q,i,none⟩ Cn (Ne.symm hqo)).trans (hal i _)
      have hst:∀ i:Nat,(w2.setCell ⟨Bo,0,none⟩ (.slice (some ⟨gg,0,none⟩) (l.length+1) cap2)).cell? ⟨q,i,none⟩=w.cell? ⟨q,i,none⟩:=fun i=>(World.cell?_setCell_far w2 ⟨Bo,0,none⟩ ⟨q,i,none⟩ _ hqp).trans (hap i)
      have HPS:=hid (kN (x:=⟨k,ks.length,lD E.toEnv k wd⟩) hBo hF hp hown hgrow2 hown2);clear hgrow2 hown2;refine hK.out _ _ ?_ (fun hHeld13=>?_)
      ·exact Ay
      clear hK K
      try simp only [Act.put,N',Q',S']
      refine wpAnyH_ready (rs:=[14]) Ci Cm (AllReadyH.cons (o:=?_) ?_ (fun K hK=>?_) AllReadyH.nil)
      rotate_left
      ·exact Ax
      go_simp;go_wp2_with fail;refine hK.out _ _ ?_ (fun hHeld14=>?_)
      ·exact Ay
      clear hK K
      try simp only [Act.put,N',Q',S']
      refine wpAnyH_done Ci ?_ _;go_wp2_with fail
      go_meet
      case rel=>exact HPS.out
    case rest =>
     clear p1 pf hpc hpz pA hal hsz hlt hoc hqlt hqo hqp q0 q4 hown hp hF hiN hz0 hz1 hz2 hBo;have hP1:=hcut;have c4:=HST.out _ _ ⟨q,4,none⟩ _ hP1 HQ.out.1 HQ.out.2.2.2.2;clear hcut;have hcf:∀ (p1:Nat) (w1:World),Sem.run Tryz.prog (callFunc 28 #[.pointer (some ⟨p1,0,none⟩),.pointer (some ⟨B3,0,none⟩),.pointer (some ⟨B6,0,none⟩),.pointer (some ⟨B9,0,none⟩),.pointer (some ⟨Bo,0,none⟩),.pointer (some ⟨Bw,0,none⟩)]) w1=.ok (.enter 28 #[.pointer (some ⟨p1,0,none⟩),.pointer (some ⟨B3,0,none⟩),.pointer (some ⟨B6,0,none⟩),.pointer (some ⟨B9,0,none⟩),.pointer (some ⟨Bo,0,none⟩),.pointer (some ⟨Bw,0,none⟩)]) w1:=fun _ _=>cF Ci _ _
     have hkl:((ks.length:Nat):Int)<=1000000000:=by have h1:=fS ks;have h2:=HTT.out.2.2.2.1;simp only [cnt] at h2;omega
     go_wp2_with fail
     go_loopg [69] ks.length (fun j v wr=>∃ i:Nat,v=.int .i64 (i:Int)/\i+j=ks.length/\AH wS Bo (l++[⟨k,ks.length,lD E.toEnv k wd⟩]++kC E.toEnv (ks.take i)) wr)
     case atStart=>exact⟨0,rfl,Cf,by simpa [kC] using hP1⟩
     case round =>
      clear hP1 c4;obtain⟨i,rfl,hij,hPi⟩:=hrel;have cw:=HST.out _ _ ⟨Bw,0,none⟩ _ hPi HT.out.ne.2.2.2.1 HT.out.f;by_cases hlt:i < ks.length
      ·have hd:decide (((i:Nat):Int) < ((ks.length:Nat):Int))=true:=by simpa using hlt
       have hi0:(0:Int)<=(i:Int):=Cf
       have hi1:(i:Int) < (ks.length:Int):=Cf
       have hwr:IntKind.i64.wrap ((i:Int)+1)=(i:Int)+1:=Cs
       obtain⟨x,hx⟩:∃ x,ks[i]?=some x:=⟨_,M' hlt⟩;obtain⟨p1,hp1,hTp⟩:=fA.get i x HTT.out.2.1 hx;have hspx:=Sps.mem HTT.out.2.2.2.2 (List.mem_of_getElem? hx);rcases HTT.out.1 with he|⟨b,o,rfl,hb,hrc⟩
       ·rw [he] at hp1;simp at hp1
       have ck:=HST.out _ _ ⟨b,o+i,none⟩ _ hPi hb.2 (hrc i p1 hp1);clear hrc;have HPI:=hid hPi;have hbound:=BQ hx;go_wp2_with fail;refine (IH.out x (by have:=HTT.out.2.2.1;simp only [cnt] at this;omega) p1 _ _ hTp hspx HPI.out ?_).mono ?_
       ·have:=HTT.out.2.2.2.1;simp only [cnt] at this;simp only [O',Ab,Aj,ZK];omega
       rintro e w5 ⟨rfl,hP5⟩;clear cw ck HPI hPi;go_wp2_with fail;go_roundg (ks.length - (i+1))
       case measure=>omega
       case rel=>exact⟨i+1,Cm,Cf,by rw [fN hx,yI];simpa [kC] using hP5⟩
      ·have hd:decide (((i:Nat):Int) < ((ks.length:Nat):Int))=false:=by simpa using hlt
       have hie:i=ks.length:=Cf
       go_wp2_with fail
       go_returns
       refine⟨rfl,?_⟩;rw [hie,List.take_length] at hPi;simpa [parts] using hPi
end
