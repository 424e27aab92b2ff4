import Derived.Test.YtjdllofmhglmiaaGreatDoorQBP
import Derived.Test.YtjdllofmhglmiaaGreatDoorQAN
import Derived.Laws.EntriesVeiled
namespace Go.Proofs.YtjdllofmhglmiaaGreatDoor
open Lib(hid)
set_option linter.all false
set_option maxHeartbeats 40000000
set_option maxRecDepth 100000
section
open Go.RowKit
variable {w w':World}
def tU (wS:World) (Bp:Nat):Nat->Prop:=fun b=>b < wS.heap.size/\b≠Bp
theorem fR {D:Nat->Prop}{q:Nat}{k:UInt8}{wd:Int}{f t:Nat}{ks:List Tr} (h:nA w D q (.mk k wd f t ks)):∃ ka cap ps,w.heap[q]?=some (.cells #[.int .u8 (k.toNat:Int),i8 wd,i8 (f:Int),i8 (t:Int),.slice ka ks.length cap] 54 (0,0))/\D q/\nJ w D ka ps/\fA w D ps ks:=by
 obtain⟨h1,ka,cap,ps,h2,h3,h4⟩:=h;exact⟨ka,cap,ps,h2,h1,h3,h4⟩
theorem QP {N:List UInt8->uH} (HN:LJ N) {goal:UInt8}{s:List UInt8}{e a:Nat} (h:tD N goal s=.bad e a):e≠0:=by
 unfold tD at h;split at h
 ·cases h;decide
 ·split at h
  ·rename_i hN;cases h;exact HN.bad _ _ _ hN
  ·split at h
   ·cases h
   ·cases h;decide
   ·rename_i hT;exact absurd hT kQ
theorem UM {N:List UInt8->uH} (HN:LJ N) {goal:UInt8}{s:List UInt8}{l:List Tk}{t:Tr} (h:tD N goal s=.ok l t):cnt t<=20000005:=by
 unfold tD at h;split at h
 ·cases h
 ·split at h
  ·cases h
  ·rename_i l p hN;split at h
   ·rename_i t m hT;cases h;have h1:=VT hT;have h2:=(HN.fit _ _ _ hN).small;simp only at h1;omega
   ·cases h
   ·cases h
theorem GD {X:List Nat}{w0 w1 w2:World} (h:Fr X w1 w2) (hb:Below w0.heap.size w0 w1) (hX:∀ x∈X,w0.heap.size<=x):Below w0.heap.size w0 w2 :=
 hb.trans ⟨h.os,h.tape,h.output,h.size,fun k hk=>h.block k (by have:=hb.size;omega) (fun m=>by have:=hX k m;omega)⟩
theorem ON {b:Nat}{x y:Value}{T:TypeId} (h:w.heap[b]?=some (.cells #[x,y] T (0,0))) (x' y':Value):((w.setCell (y8 b 0) x').setCell (y8 b 1) y').heap[b]?=some (.cells #[x',y'] T (0,0))/\Fr [b] w ((w.setCell (y8 b 0) x').setCell (y8 b 1) y'):=by
 have s2:=heap_setCell_same (w.setCell (y8 b 0) x') b 1 _ _ y' (heap_setCell_same w b 0 _ _ x' h);simp only [Q',Z',Aa] at s2;exact⟨s2,(NA b 0 w _).trans (NA b 1 _ _)⟩
theorem YB {b:Nat}{x y:Value}{T:TypeId} (h:w.heap[b]?=some (.cells #[x,y] T (0,0))):w.cell? (y8 b 0)=some x/\w.cell? (y8 b 1)=some y/\w.frozen? (y8 b 0)=false/\w.frozen? (y8 b 1)=false:=by
 refine⟨?_,?_,?_,?_⟩ <;> simp [World.cell?,World.frozen?,h]
end
section
open Go.RowKit
variable {w w':World}
theorem Tryz.infoPt:(Tryz.prog.info? 41).map (fun i=>(i.zero,i.size,i.bytes))=some (some (.agg #[.int .u8 0,i8 0,.string ⟨#[]⟩]),3,32):=Cw
def AH (wS:World) (Bo:Nat) (l:List Pt3) (w:World):Prop :=
 ∃ v,w.heap[Bo]?=some (.cells #[v] 25 (0,0))/\w.ownsRow wS.heap.size 41 3 v l.length (CF l)/\Fr [Bo] wS w
theorem AH.below {wS w w':World}{Bo:Nat}{l:List Pt3} (hBo:Bo < wS.heap.size) (h:AH wS Bo l w) (hb:Below w.heap.size w w'):AH wS Bo l w':=by
 obtain⟨v,h1,h2,h3⟩:=h;exact⟨v,(hb.block _ (Aj hBo h3.size)).trans h1,CD h2 (Fr.below (X:=[]) hb) Cu,h3.trans (Fr.below hb)⟩
theorem AH.drew {wS w:World}{Bo:Nat}{l:List Pt3} (h:AH wS Bo l w):AH wS Bo l w.drew:=by
 obtain⟨v,h1,h2,h3⟩:=h;exact⟨v,h1,h2.drew,h3.trans (Fr.below (N' _ _).drew)⟩
theorem kN {wS w w2:World}{Bo:Nat}{l:List Pt3}{x:Pt3}{v:Value}{O:Obj}{gg cap2:Nat} (hBo:Bo < wS.heap.size) (hF:Fr [Bo] wS w) (hp:w.heap[Bo]?=some (.cells #[v] 25 (0,0))) (hown:w.ownsRow wS.heap.size 41 3 v l.length (CF l))
  (hg:(w.alloc O).drew.grownBy w2 v.ownBlock) (ho:w2.ownsRow wS.heap.size 41 3 (.slice (some (y8 gg 0)) (l.length+1) cap2) (l.length+1) (CF l++TJ x)) :
  AH wS Bo (l++[x]) (w2.setCell (y8 Bo 0) (.slice (some (y8 gg 0)) (l.length+1) cap2)):=by
 have hs:=hF.size;have hlt:Bo < w.heap.size:=Cs
 have hB:=((N' w.heap.size w).alloc (C' _) O).drew;have hoc:v.ownBlock≠some Bo:=fun e=>by have:=(hown.lt Bo e).1;omega
 have h2:w2.heap[Bo]?=some (.cells #[v] 25 (0,0)):=(hg.block Bo Ia (fun e=>hoc e.symm)).trans ((hB.block Bo hlt).trans hp);have hX:Fr (YD v) (w.alloc O).drew w2:=Fr.grown hg (fun k hk=>Gl);have hXm:∀ i∈YD v,wS.heap.size<=i:=by
  exact zc1
 have h3:=heap_setCell_same w2 Bo 0 _ _ (.slice (some (y8 gg 0)) (l.length+1) cap2) h2;simp only [Q',Z'] at h3;have hgg:=(ho.lt gg rfl).1;refine⟨_,h3,?_,((hF.trans (Fr.below hB)).trans' hX (fun i hi=>.inr (hXm i hi))).trans (NA Bo 0 w2 _)⟩;rw [mR,V'];exact CD ho (NA Bo 0 w2 _) (fun b hb e=>Ha)
structure TR (E:Ev) (wS:World) (c B3 B6 B9 Bo Bw:Nat):Prop where
 lt:Bo < wS.heap.size
 s:wS.cell? (y8 B3 0)=some (.string ⟨E.s.toArray⟩)
 t:wS.cell? (y8 B6 0)=some (.slice E.ta E.l.length E.tcap)
 r:wS.cell? (y8 B9 0)=some (p8 c)
 f:wS.cell? (y8 Bw 0)=some (.func (.func 20) #[] #[p8 B3,p8 B6,p8 B9,p8 Bo,p8 Bw])
 c0:wS.cell? (y8 c 0)=some (.string ⟨E.s.toArray⟩)
 c1:wS.cell? (y8 c 1)=some (.slice E.ta E.l.length E.tcap)
 lie:Lie E c wS
 ne:B3≠Bo/\B6≠Bo/\B9≠Bo/\Bw≠Bo/\c<=Bo/\c≠Bo
theorem NS {E:Ev}{wS w:World}{c B3 B6 B9 Bo Bw:Nat}{l:List Pt3} (HT:TR E wS c B3 B6 B9 Bo Bw) (hP:AH wS Bo l w) (i:Int) :
  Calls Tryz.prog 21 #[p8 c,i8 i] w fun e w'=>e=.returned (.string ⟨(E.toEnv.word i).toArray⟩)/\Below w.heap.size w w':=by
 obtain⟨_,_,_,hF⟩:=hP;exact BH E c i w (hF.cell (by simpa using HT.ne.2.2.2.2.2) HT.c0) (hF.cell (by simpa using HT.ne.2.2.2.2.2) HT.c1) (HT.lie.later hF (fun k hk=>by simp at hk;have:=HT.ne.2.2.2.2.1;omega))
theorem AU {E:Ev}{wS:World}{c B3 B6 B9 Bo Bw:Nat} (HT:TR E wS c B3 B6 B9 Bo Bw) :
  ∀ (n:Nat) (t:Tr),cnt t<=n->∀ (q:Nat) (l:List Pt3) (w:World),nA wS (tU wS Bo) q t->Sp E.toEnv t->AH wS Bo l w->l.length+cnt t<=1000000000 ->
   Calls Tryz.prog 20 #[p8 q,p8 B3,p8 B6,p8 B9,p8 Bo,p8 Bw] w (fun e w'=>e=.returned (.tuple #[])/\AH wS Bo (l++parts E.toEnv t) w'):=by
 intro n
 induction n with
 | zero=>intro t ht;have:=YR t;omega
 | succ n ih =>
  intro t ht q l w hT hsp hP hl;obtain⟨k,wd,f,te,ks⟩:=t;have IH:=hid ih;have HT:=hid HT;clear ih;obtain⟨ka,cap,ps,hq,hD,hrow,htr⟩:=fR hT;obtain⟨hsp1,hsp2⟩:=hsp.out;have hwl:=pR hsp1;have hst:∀ {l9:List Pt3}{wx:World}{a:Addr}{v:Value},AH wS Bo l9 wx->a.block≠Bo->wS.cell? a=some v->wx.cell? a=some v:=fun h ha hv=>by
   obtain⟨_,_,_,hF⟩:=h;exact hF.cell (by simpa using ha) hv
  have q0:wS.cell? (y8 q 0)=some (.int .u8 (k.toNat:Int)):=Kh
  have q1:wS.cell? (y8 q 1)=some (i8 wd):=Kh
  have q4:wS.cell? (y8 q 4)=some (.slice ka ks.length cap):=Kh
  have HQ:=hid (Az hD.2 (Az hD.1 (Az q0 (Az q1 q4))));have HST:Hid (∀ (l9:List Pt3) (wx:World) (a:Addr) (v:Value),AH wS Bo l9 wx->a.block≠Bo->wS.cell? a=some v->wx.cell? a=some v):=fun _ _ _ _ h ha hv=>hst h ha hv
  have HTT:=hid (Az hrow (Az htr (Az ht (Az hl hsp2))));clear hst hrow htr ht hl hT hD hq q0 q1 q4 hsp1 hsp2;have HP:=hid hP;have q1:=HST.out _ _ (y8 q 1) _ hP HQ.out.1 HQ.out.2.2.2.1;clear hP
  go_in
  go_upto_if 14 with fail
  go_cut [7] from 10 (fun s7 wx=>s7=.string ⟨(E.toEnv.text wd).toArray⟩/\AH wS Bo l wx)
  case first =>
   rcases hwl with rfl|⟨m,rfl,hm⟩
   ·go_wp2_with fail
    go_meet
    case rel=>exact⟨rfl,HP.out⟩
   ·have hd:decide ((0:Int)<=(m:Int))=true:=by simp
    obtain⟨t9,ht9⟩:∃ t9,E.l[m]?=some t9:=⟨_,O' hm⟩;obtain⟨b9,o9,hta,hb9,k0,k1,k2⟩:=HT.out.lie.toks m t9 ht9;obtain⟨f1,f2⟩:=HT.out.lie.fits t9 (List.mem_of_getElem? ht9);have hs3:=HST.out _ _ (y8 B3 0) _ HP.out HT.out.ne.1 HT.out.s;have ht6:=HST.out _ _ (y8 B6 0) _ HP.out HT.out.ne.2.1 HT.out.t;have k1':=HST.out _ _ ⟨b9,o9+m*3+1,none⟩ _ HP.out Hj k1;have k2':=HST.out _ _ ⟨b9,o9+m*3+2,none⟩ _ HP.out Hj k2;rw [hta] at ht6;have g0:(0:Int)<=(t9.fr:Int):=Cs
    have g1:(t9.fr:Int)<=(t9.to:Int):=Cs
    have g2:(t9.to:Int)<=(E.s.length:Int):=Cs
    have b0:(0:Int)<=(m:Int):=Cs
    have b1:(m:Int) < (E.l.length:Int):=Cs
    have HX:Hid (E.toEnv.text (m:Int)=(E.s.take t9.to).drop t9.fr):=by
     show (if (m:Int) < 0 then [] else match E.l[(m:Int).toNat]? with|some t=>(E.s.take t.to).drop t.fr|none=>[])=_
     rw [Bc Cs];simp only [Ai,ht9]
    clear k0 k1 k2 hm f1 f2 ht9 hta hb9;go_wp2_with fail;go_big_quiet (fail);go_wp2_with fail
    go_meet
    case rel=>exact⟨by rw [HX.out,List.drop_take];try simp [ByteArray.extract_mk],HP.out.below HT.out.lt (below_drewN (N' _ _) _)⟩
  case rest =>
   clear q1 HP;obtain⟨rfl,hP⟩:=hcut;have HP:=hid hP;have q0:=HST.out _ _ (y8 q 0) _ hP HQ.out.1 HQ.out.2.2.1;have q1:=HST.out _ _ (y8 q 1) _ hP HQ.out.1 HQ.out.2.2.2.1;have r9:=HST.out _ _ (y8 B9 0) _ hP HT.out.ne.2.2.1 HT.out.r;clear hP;have hwd:wd=-1∨((0:Int)<=wd/\wd<=1099511627776):=hwl.imp id (fun⟨m,e,h⟩=>by have:=HT.out.lie.small;omega);have hwr:IntKind.i64.wrap (wd+1)=wd+1:=Cy
   clear hwl hwd
   go_upto_if 37 with fail
   go_cut [7] from 10 (fun s7 wx=>s7=.string ⟨(lD E.toEnv k wd).toArray⟩/\AH wS Bo l wx)
   case first =>
    by_cases k45:k=45
    ·subst k45;cases h1:(E.toEnv.text wd==[60,45]) with
     | true =>
      go_wp2_with fail
      go_meet
      case rel=>exact⟨by unfold lD;rw [Bb rfl,Bb (B7 h1)],HP.out⟩
     | false =>
      go_wp2_with fail;cases h2:(E.toEnv.word (wd+1)==[60,45]) with
      | true =>
       go_region_held3 (fun w'=>w'.cell? ⟨q,1,none⟩=some (i8 wd)/\w'.cell? ⟨B9,0,none⟩=some (p8 c)) (first|exact⟨Dt,Dt⟩|exact⟨aA hb5 q1,aA hb5 r9⟩) (first|(go_at_call 21;refine (NS HT.out HP.out.drew (wd+1)).mono ?_;rintro e w5 ⟨rfl,hb5⟩;have HP5:=hid (HP.out.drew.below HT.out.lt hb5)))
       go_wp2_with fail
       go_meet
       case rel=>exact⟨by unfold lD;rw [Bb rfl,Bc (fun e=>Io),Bb (B7 h2)],HP5.out⟩
      | false =>
       go_region_held3 (fun w'=>w'.cell? ⟨q,1,none⟩=some (i8 wd)/\w'.cell? ⟨B9,0,none⟩=some (p8 c)) (first|exact⟨Dt,Dt⟩|exact⟨aA hb5 q1,aA hb5 r9⟩) (first|(go_at_call 21;refine (NS HT.out HP.out.drew (wd+1)).mono ?_;rintro e w5 ⟨rfl,hb5⟩;have HP5:=hid (HP.out.drew.below HT.out.lt hb5)))
       go_wp2_with fail
       go_meet
       case rel=>exact⟨by unfold lD;rw [Bb rfl,Bc (fun e=>Io),Bc (fun e=>by rw [e] at h2;exact absurd h2 Ct)],HP5.out⟩
    ·have dk:(((k.toNat:Nat):Int)==45)=false:=OK (goal:=k) (k:=45) k45 Cs;go_wp2_with fail
     go_meet
     case rel=>exact⟨by unfold lD;rw [Bc k45],HP.out⟩
   case rest =>
    clear q0 q1 r9 HP hwr;obtain⟨rfl,hP⟩:=hcut;have q0:=HST.out _ _ (y8 q 0) _ hP HQ.out.1 HQ.out.2.2.1;have q4:=HST.out _ _ (y8 q 4) _ hP HQ.out.1 HQ.out.2.2.2.2;obtain⟨v,hp,hown,hF⟩:=hP;obtain⟨va,vc,rfl⟩:=xB hown;obtain⟨w,hw⟩:∃ w,w=wc:=⟨_,rfl⟩;subst hw;have p1:w.cell? (y8 Bo 0)=some (.slice va l.length vc):=by simp [World.cell?,hp]
    have pf:w.frozen? (y8 Bo 0)=false:=by simp [World.frozen?,hp]
    obtain⟨iN,hiN,hz0,hz1,hz2⟩:=info_parts Tryz.infoPt;have hBo:=HT.out.lt;have hlt:Bo < w.heap.size:=Aj hBo hF.size;have hoc:(Value.slice va l.length vc).ownBlock≠some Bo:=fun e=>by have:=(hown.lt Bo e).1;omega
    have hpc:∀ o,(w.alloc o).cell? (y8 Bo 0)=some (.slice va l.length vc):=fun o=>Gb
    have hpz:∀ o,(w.alloc o).frozen? (y8 Bo 0)=false:=fun o=>Ga
    have hqlt:q < w.heap.size:=Aj HQ.out.2.1 hF.size;have hqo:(Value.slice va l.length vc).ownBlock≠some q:=fun e=>by have:=(hown.lt q e).1;have:=HQ.out.2.1;omega
    have hqp:Bo≠q:=fun e=>HQ.out.1 e.symm
    have pA:=hpc (.cells #[.int .u8 (k.toNat:Int),i8 (ks.length:Int),.string ⟨(lD E.toEnv k wd).toArray⟩] 41);have hal:∀ (i:Nat) (o:Obj),(w.alloc o).drew.cell? (y8 q i)=w.cell? (y8 q i):=fun i o=>World.cell?_of_block (a:=(y8 q i)) (((N' w.heap.size w).alloc (C' _) o).drew.block q hqlt)
    have hsz:wS.heap.size<=w.heap.size:=hF.size;have hlb:l.length<=1000000000:=by have:=HTT.out.2.2.2.1;omega
    go_upto_region 8 with fail
    go_cut [] from 10 (fun wx=>AH wS Bo (l++[⟨k,ks.length,lD E.toEnv k wd⟩]) wx)
    case first =>
     refine Ce (S:=fun w'=>w'.cell? (y8 q 0)=some (.int .u8 (k.toNat:Int))/\w'.cell? (y8 q 4)=some (.slice ka ks.length cap)) Cw ?_ (fun hHeld=>?_)
     ·exact Ci
     refine tn_ 1 ?_;refine tn_ 2 ?_;refine tn_ 3 ?_;refine tn_ 4 ?_;refine tn_ 5 ?_;refine tn_ 6 ?_;refine tn_ 7 ?_;refine tn_ 8 ?_;refine tn_ 9 ?_;refine tn_ 10 ?_;refine tn_ 11 ?_;refine Cb (rs:=[0,12]) Cw Cu (Cc (o:=?_) ?_ (fun K hK=>?_) (Cc (o:=?_) ?_ (fun K hK=>?_) Cd))
     rotate_left
     ·exact Cf
     rotate_left 2
     ·exact Cf
     ·skip
      go_simp;go_wp2_with fail;refine hK.out _ _ ?_ (fun hHeld12=>?_)
      ·exact Ci
      clear hK K
      try simp only [Act.put,Q',Z',Aa]
      refine Cb (rs:=[0]) Cw Cu (Cc (o:=?_) ?_ (fun K hK=>?_) Cd)
      rotate_left
      ·exact Cf
      go_simp;go_wp2_with fail;refine hK.out _ _ ?_ (fun hHeld0=>?_)
      ·exact Ci
      clear hK K
      try simp only [Act.put,Q',Z',Aa]
      refine Cb (rs:=[13]) Cw Cu (Cc (o:=?_) ?_ (fun K hK=>?_) Cd)
      rotate_left
      ·exact Cf
      refine step_append_lies _ Db _ _ _ Db wS.heap.size 41 iN _ 3 32 Tryz.underlying25 hiN hz0 hz1 hz2 rfl Cs (.slice va l.length vc) l.length (CF l) Db ((hown.alloc _).drew) (y8 w.heap.size 0) 1 1 (TJ ⟨k,ks.length,lD E.toEnv k wd⟩) Db Db (At (cs:=(TJ ⟨k,ks.length,lD E.toEnv k wd⟩).toArray) (t:=41) (fr:=(0,0)) (B8 w _)) (by simp [TJ,Value.oneCell']) Cs Da Cs Cv (w.heap.size+1) Cu ?_;intro gg cap2 w2 hown2 hgrow2 hat2 hlt2;have k2:w2.cell? (y8 Bo 0)=some (.slice va l.length vc):=(hgrow2.cell_far _ Cv (Ne.symm hoc)).trans (hpc _);have z2:w2.frozen? (y8 Bo 0)=false:=(hgrow2.frozen_far _ Cv (Ne.symm hoc)).trans (hpz _);have hap:∀ i:Nat,w2.cell? (y8 q i)=w.cell? (y8 q i):=fun i=>(hgrow2.cell_far (y8 q i) Cv (Ne.symm hqo)).trans (hal i _)
      have hst:∀ i:Nat,(w2.setCell (y8 Bo 0) (.slice (some (y8 gg 0)) (l.length+1) cap2)).cell? (y8 q i)=w.cell? (y8 q i):=fun i=>(World.cell?_setCell_far w2 (y8 Bo 0) (y8 q i) _ hqp).trans (hap i)
      have HPS:=hid (kN (x:=⟨k,ks.length,lD E.toEnv k wd⟩) hBo hF hp hown hgrow2 hown2);clear hgrow2 hown2;refine hK.out _ _ ?_ (fun hHeld13=>?_)
      ·exact Ci
      clear hK K
      try simp only [Act.put,Q',Z',Aa]
      refine Cb (rs:=[14]) Cw Cu (Cc (o:=?_) ?_ (fun K hK=>?_) Cd)
      rotate_left
      ·exact Cf
      go_simp;go_wp2_with fail;refine hK.out _ _ ?_ (fun hHeld14=>?_)
      ·exact Ci
      clear hK K
      try simp only [Act.put,Q',Z',Aa]
      refine wpAnyH_done Cw ?_ _;go_wp2_with fail
      go_meet
      case rel=>exact HPS.out
     ·skip
      go_simp;go_wp2_with fail;refine hK.out _ _ ?_ (fun hHeld0=>?_)
      ·exact Ci
      clear hK K
      try simp only [Act.put,Q',Z',Aa]
      refine Cb (rs:=[12]) Cw Cu (Cc (o:=?_) ?_ (fun K hK=>?_) Cd)
      rotate_left
      ·exact Cf
      go_simp;go_wp2_with fail;refine hK.out _ _ ?_ (fun hHeld12=>?_)
      ·exact Ci
      clear hK K
      try simp only [Act.put,Q',Z',Aa]
      refine Cb (rs:=[13]) Cw Cu (Cc (o:=?_) ?_ (fun K hK=>?_) Cd)
      rotate_left
      ·exact Cf
      refine step_append_lies _ Db _ _ _ Db wS.heap.size 41 iN _ 3 32 Tryz.underlying25 hiN hz0 hz1 hz2 rfl Cs (.slice va l.length vc) l.length (CF l) Db ((hown.alloc _).drew) (y8 w.heap.size 0) 1 1 (TJ ⟨k,ks.length,lD E.toEnv k wd⟩) Db Db (At (cs:=(TJ ⟨k,ks.length,lD E.toEnv k wd⟩).toArray) (t:=41) (fr:=(0,0)) (B8 w _)) (by simp [TJ,Value.oneCell']) Cs Da Cs Cv (w.heap.size+1) Cu ?_;intro gg cap2 w2 hown2 hgrow2 hat2 hlt2;have k2:w2.cell? (y8 Bo 0)=some (.slice va l.length vc):=(hgrow2.cell_far _ Cv (Ne.symm hoc)).trans (hpc _);have z2:w2.frozen? (y8 Bo 0)=false:=(hgrow2.frozen_far _ Cv (Ne.symm hoc)).trans (hpz _);have hap:∀ i:Nat,w2.cell? (y8 q i)=w.cell? (y8 q i):=fun i=>(hgrow2.cell_far (y8 q i) Cv (Ne.symm hqo)).trans (hal i _)
      have hst:∀ i:Nat,(w2.setCell (y8 Bo 0) (.slice (some (y8 gg 0)) (l.length+1) cap2)).cell? (y8 q i)=w.cell? (y8 q i):=fun i=>(World.cell?_setCell_far w2 (y8 Bo 0) (y8 q i) _ hqp).trans (hap i)
      have HPS:=hid (kN (x:=⟨k,ks.length,lD E.toEnv k wd⟩) hBo hF hp hown hgrow2 hown2);clear hgrow2 hown2;refine hK.out _ _ ?_ (fun hHeld13=>?_)
      ·exact Ci
      clear hK K
      try simp only [Act.put,Q',Z',Aa]
      refine Cb (rs:=[14]) Cw Cu (Cc (o:=?_) ?_ (fun K hK=>?_) Cd)
      rotate_left
      ·exact Cf
      go_simp;go_wp2_with fail;refine hK.out _ _ ?_ (fun hHeld14=>?_)
      ·exact Ci
      clear hK K
      try simp only [Act.put,Q',Z',Aa]
      refine wpAnyH_done Cw ?_ _;go_wp2_with fail
      go_meet
      case rel=>exact HPS.out
    case rest =>
     clear p1 pf hpc hpz pA hal hsz hlt hoc hqlt hqo hqp q0 q4 hown hp hF hiN hz0 hz1 hz2 hBo;have hP1:=hcut;have c4:=HST.out _ _ (y8 q 4) _ hP1 HQ.out.1 HQ.out.2.2.2.2;clear hcut;have hcf:∀ (p1:Nat) (w1:World),Sem.run Tryz.prog (callFunc 20 #[p8 p1,p8 B3,p8 B6,p8 B9,p8 Bo,p8 Bw]) w1=.ok (.enter 20 #[p8 p1,p8 B3,p8 B6,p8 B9,p8 Bo,p8 Bw]) w1:=fun _ _=>cF Cw _ _
     have hkl:((ks.length:Nat):Int)<=1000000000:=by have h1:=fS ks;have h2:=HTT.out.2.2.2.1;simp only [cnt] at h2;omega
     go_wp2_with fail
     go_loopg [69] ks.length (fun j v wr=>∃ i:Nat,v=i8 (i:Int)/\i+j=ks.length/\AH wS Bo (l++[⟨k,ks.length,lD E.toEnv k wd⟩]++kC E.toEnv (ks.take i)) wr)
     case atStart=>exact⟨0,rfl,Cs,by simpa [kC] using hP1⟩
     case round =>
      clear hP1 c4;obtain⟨i,rfl,hij,hPi⟩:=hrel;have cw:=HST.out _ _ (y8 Bw 0) _ hPi HT.out.ne.2.2.2.1 HT.out.f;by_cases hlt:i < ks.length
      ·have hd:decide (((i:Nat):Int) < ((ks.length:Nat):Int))=true:=by simpa using hlt
       have hi0:(0:Int)<=(i:Int):=Cs
       have hi1:(i:Int) < (ks.length:Int):=Cs
       have hwr:IntKind.i64.wrap ((i:Int)+1)=(i:Int)+1:=Cy
       obtain⟨x,hx⟩:∃ x,ks[i]?=some x:=⟨_,O' hlt⟩;obtain⟨p1,hp1,hTp⟩:=fA.get i x HTT.out.2.1 hx;have hspx:=Sps.mem HTT.out.2.2.2.2 (List.mem_of_getElem? hx);rcases HTT.out.1 with he|⟨b,o,rfl,hb,hrc⟩
       ·rw [he] at hp1;simp at hp1
       have ck:=HST.out _ _ (y8 b (o+i)) _ hPi hb.2 (hrc i p1 hp1);clear hrc;have HPI:=hid hPi;have hbound:=BQ hx;go_wp2_with fail;refine (IH.out x (by have:=HTT.out.2.2.1;simp only [cnt] at this;omega) p1 _ _ hTp hspx HPI.out ?_).mono ?_
       ·have:=HTT.out.2.2.2.1;simp only [cnt] at this;simp only [V',Ae,Am,ZK];omega
       rintro e w5 ⟨rfl,hP5⟩;clear cw ck HPI hPi;go_wp2_with fail;go_roundg (ks.length - (i+1))
       case measure=>omega
       case rel=>exact⟨i+1,Cu,Cs,by rw [fN hx,yI];simpa [kC] using hP5⟩
      ·have hd:decide (((i:Nat):Int) < ((ks.length:Nat):Int))=false:=by simpa using hlt
       have hie:i=ks.length:=Cs
       go_wp2_with fail
       go_returns
       refine⟨rfl,?_⟩;rw [hie,List.take_length] at hPi;simpa [parts] using hPi
end
section
variable {l:List UInt8}{a b:Nat}
theorem SQ {n m b0 b1 b2 b3 c1 c2 c3:Nat} (hmn:m<=n) (h1:1 < m->c1=b1) (h2:2 < m->c2=b2) (h3:3 < m->c3=b3)
  (hw:(Lib.decodeN n b0 b1 b2 b3).2<=m) (hr:(Lib.decodeN n b0 b1 b2 b3).1≠65533∨2<=(Lib.decodeN n b0 b1 b2 b3).2):Lib.decodeN m b0 c1 c2 c3=Lib.decodeN n b0 b1 b2 b3:=by
 unfold Lib.decodeN at hw hr ⊢;by_cases a0:b0 < 128
 ·rw [Bb a0,Bb a0]
 rw [Bc a0] at hw hr;rw [Bc a0,Bc a0];by_cases a1:b0 / 32=6/\(1 < n/\b1 / 64=2)
 ·rw [Bb a1] at hw hr;split at hw
  ·rename_i v;have e1:1 < m:=by omega
   have:=h1 e1;subst this;rw [Bb a1,Bb ⟨a1.1,e1,a1.2.2⟩]
  ·exact Cp
 rw [Bc a1] at hw hr;rw [Bc a1,Bc (fun h=>a1 ⟨h.1,Cs,by rw [<- h1 h.2.1];exact h.2.2⟩)];by_cases a2:b0 / 16=14/\(1 < n/\b1 / 64=2)/\(2 < n/\b2 / 64=2)
 ·rw [Bb a2] at hw hr;split at hw
  ·rename_i v;have e2:2 < m:=by omega
   have:=h1 Cs;subst this;have:=h2 e2;subst this;rw [Bb a2,Bb ⟨a2.1,⟨Cs,a2.2.1.2⟩,e2,a2.2.2.2⟩]
  ·exact Cp
 rw [Bc a2] at hw hr;rw [Bc a2,Bc (fun h=>a2 ⟨h.1,⟨Cs,by rw [<- h1 h.2.1.1];exact h.2.1.2⟩,Cs,by rw [<- h2 h.2.2.1];exact h.2.2.2⟩)];by_cases a3:b0 / 8=30/\(1 < n/\b1 / 64=2)/\(2 < n/\b2 / 64=2)/\(3 < n/\b3 / 64=2)
 ·rw [Bb a3] at hw hr;split at hw
  ·rename_i v;have e3:3 < m:=by omega
   have:=h1 Cs;subst this;have:=h2 Cs;subst this;have:=h3 e3;subst this;rw [Bb a3,Bb ⟨a3.1,⟨Cs,a3.2.1.2⟩,⟨Cs,a3.2.2.1.2⟩,e3,a3.2.2.2.2⟩]
  ·exact Cp
 rw [Bc a3] at hw hr;simp at hr
theorem SM {x:List UInt8}{m:Nat} (hx:x≠[]) (hw:(dec x).2<=m) (hm:m<=x.length) (hr:(dec x).1≠65533∨2<=(dec x).2):dec (x.take m)=dec x:=by
 have hp:=eG hx;have hl:x.length≠0:=fun e=>hx (Ac e)
 have hs:(ByteArray.mk x.toArray).size≠0:=by simp [ByteArray.size];exact hx
 have hs2:(ByteArray.mk (x.take m).toArray).size≠0:=by simp [ByteArray.size];exact⟨Cs,hx⟩
 unfold dec Lib.decodeGo at hw hr ⊢;rw [Bc hs,Lib.decode_at] at hw hr;rw [Bc hs,Bc hs2,Lib.decode_at,Lib.decode_at];simp only [pJ,ByteArray.size,List.size_toArray,Nat.sub_zero,Nat.zero_add] at hw hr ⊢;have hg:∀ j,j < m->(x.take m)[j]?=x[j]?:=fun j hj=>by rw [List.getElem?_take,Bb hj]
 have e0:(x.take m)[0]?=x[0]?:=hg 0 (by
  have:1<=(dec x).2:=hp;unfold dec Lib.decodeGo at this;rw [Bc hs,Lib.decode_at] at this;simp only [pJ,ByteArray.size,List.size_toArray,Nat.sub_zero,Nat.zero_add] at this;omega)
 rw [e0,List.length_take,Nat.min_eq_left hm];exact SQ hm (fun h=>by rw [hg 1 h]) (fun h=>by rw [hg 2 h]) (fun h=>by rw [hg 3 h]) hw hr
end
section
open Go.RowKit
variable {w w':World}
mutual
theorem OI (s:List UInt8) (l:List Tk) (p p':List Int):∀ t:Tr,parts ⟨s,l,p⟩ t=parts ⟨s,l,p'⟩ t
 | .mk k wd f t ks=>by
  have h:=yK s l p p' ks;simp only [parts,h]
  rfl
theorem yK (s:List UInt8) (l:List Tk) (p p':List Int):∀ ts:List Tr,kC ⟨s,l,p⟩ ts=kC ⟨s,l,p'⟩ ts
 | []=>rfl
 | t::ts=>by simp only [kC,OI s l p p' t,yK s l p p' ts]
end
theorem kY (w:World) (o1 o2 o3 o4:Obj):((((w.alloc o1).alloc o2).alloc o3).alloc o4).heap[w.heap.size]?=some o1/\((((w.alloc o1).alloc o2).alloc o3).alloc o4).heap[w.heap.size+1]?=some o2/\((((w.alloc o1).alloc o2).alloc o3).alloc o4).heap[w.heap.size+1+1]?=some o3/\((((w.alloc o1).alloc o2).alloc o3).alloc o4).heap[w.heap.size+1+1+1]?=some o4 /\
  Below w.heap.size w ((((w.alloc o1).alloc o2).alloc o3).alloc o4)/\((((w.alloc o1).alloc o2).alloc o3).alloc o4).heap.size=w.heap.size+1+1+1+1:=by
 obtain⟨h1,h2,h3,hb,hs⟩:=gV w o1 o2 o3;generalize ((w.alloc o1).alloc o2).alloc o3=w3 at *;have h4:=B8 w3 o4;have b4:=(N' w3.heap.size w3).alloc (C' _) o4;rw [hs] at h4;exact⟨(b4.block _ Cs).trans h1,(b4.block _ Cs).trans h2,(b4.block _ Cs).trans h3,h4,hb.alloc Cs o4,by simp [hs]⟩
theorem MO {N:List UInt8->uH}{goal:UInt8}{s:List UInt8}{l:List Tk}{t:Tr} (h:tD N goal s=.ok l t):∃ p m,N s=.ok l p/\FD ⟨s,l,p⟩ goal=.ok t m:=by
 unfold tD at h;split at h
 ·cases h
 ·split at h
  ·cases h
  ·rename_i l2 p hN;split at h
   ·rename_i t2 m hT;cases h;exact⟨p,m,hN,hT⟩
   ·cases h
   ·cases h
inductive eS where
 | bad (err at':Nat):eS
 | ok (l:List Pt3):eS
def lM (N:List UInt8->uH) (goal:UInt8) (s:List UInt8):eS :=
 match tD N goal s with
 | .bad e a=>.bad e a
 | .ok l t=>.ok (parts ⟨s,l,[]⟩ t)
def rW (r:eS) (w:World) (e:Ending) (w':World):Prop :=
 match r with
 | .bad err a=>e=.returned (.tuple #[.slice none 0 0,qA err a])/\Below w.heap.size w w'
 | .ok l=>∃ pv,e=.returned (.tuple #[pv,qA 0 0])/\w'.ownsRow w.heap.size 41 3 pv l.length (CF l)/\Below w.heap.size w w'
theorem TS {N:List UInt8->uH} (HN:LJ N) (goal:UInt8) (s:List UInt8) (w:World) (hw:NC w) :
  Calls Tryz.prog 12 #[.int .u8 (goal.toNat:Int),.string ⟨s.toArray⟩] w (rW (lM N goal s) w):=by
 have HNN:=hid HN;clear HN;have b3:=B8 w (.cells #[.string ⟨s.toArray⟩] 9);have b5:=B8 (w.alloc (.cells #[.string ⟨s.toArray⟩] 9)) (.cells #[i8 0,i8 0] 28);have b3':=(((N' (w.alloc (.cells #[.string ⟨s.toArray⟩] 9)).heap.size _).alloc (C' _) (Obj.cells #[i8 0,i8 0] 28)).block w.heap.size Cu).trans b3;have hB:=((N' w.heap.size w).alloc (C' _) (Obj.cells #[.string ⟨s.toArray⟩] 9)).alloc Cu (Obj.cells #[i8 0,i8 0] 28);have HW:=hid (hw.below hB);clear hw;have hsz:((w.alloc (.cells #[.string ⟨s.toArray⟩] 9)).alloc (.cells #[i8 0,i8 0] 28)).heap.size=w.heap.size+1+1:=Cu
 rw [World.size_alloc] at b5;clear b3
 go_in
 go_upto_region 1 with fail;generalize ((w.alloc (.cells #[.string ⟨s.toArray⟩] 9)).alloc (.cells #[i8 0,i8 0] 28))=wA at *;have c3:wA.cell? (y8 w.heap.size 0)=some (.string ⟨s.toArray⟩):=by simp [World.cell?,b3']
 go_wp2_with fail;refine (xT HNN.out goal s wA HW.out).mono ?_;intro e w1 hA;cases hr:tD N goal s with
 | bad er a =>
  rw [hr] at hA;obtain⟨va,vn,vc,rfl,hb⟩:=hA;have hne:((er:Nat):Int)≠0:=by have:=QP HNN.out hr;omega
  have hne2:(((er:Nat):Int)==0)=false:=Ex
  have k5:=(hb.block _ Cs).trans b5;have hs1:=hb.size;unfold qA;have hT:lM N goal s=.bad er a:=by unfold lM;rw [hr]
  have HTT:=hid hT;clear hT;go_upto_region 2 with fail;have g8:=B8 (w1.alloc (.cells #[.slice va vn vc] 34)) (.cells #[i8 (er:Int),i8 (a:Int)] 28);have hb2:=((N' w1.heap.size w1).alloc (C' _) (Obj.cells #[.slice va vn vc] 34)).alloc Cu (Obj.cells #[i8 (er:Int),i8 (a:Int)] 28);rw [World.size_alloc] at g8;have g5:=(hb2.block _ Cs).trans k5;have HB2:=hB.trans ((hb.mono (show w.heap.size<=wA.heap.size by omega)).trans (hb2.mono (show w.heap.size<=w1.heap.size by omega)));generalize ((w1.alloc (.cells #[.slice va vn vc] 34)).alloc (.cells #[i8 (er:Int),i8 (a:Int)] 28))=w2 at *;have hn1:w1.heap.size+1≠w.heap.size+1:=Cs
  obtain⟨d1,d2,d3,d4⟩:=YB g5;obtain⟨e1,e2,e3,e4⟩:=YB g8;obtain⟨s3,s4⟩:=ON g5 (i8 (er:Int)) (i8 (a:Int));have HB3:=hid (GD s4 HB2 Cu);clear s4 HB2 hb2 hb hB g5 g8 k5 b5 b3' hs1 hsz;go_wp2_with fail;go_region
  all_goals (go_wp2_with fail)
  all_goals (
   generalize ((w2.setCell (y8 (w.heap.size+1) 0) (i8 (er:Int))).setCell (y8 (w.heap.size+1) 1) (i8 (a:Int)))=w3 at *;obtain⟨y3,y4,_,_⟩:=YB s3;refine Ca (v:=.tuple #[.slice none 0 0,qA er a]) ?_ rfl ?_
   ·simp [results,Tryz.results12,go_sem,y3,y4,qA]
   ·rw [HTT.out];exact⟨rfl,HB3.out.drew⟩)
 | ok l t =>
  rw [hr] at hA;obtain⟨tv,q,rfl,ht,hN,hb⟩:=hA;obtain⟨ta,tc,rfl⟩:=xB ht;unfold qA;have hcf:∀ (p1 b1 b2 b3 b4 b5:Nat) (w1:World),Sem.run Tryz.prog (callFunc 20 #[p8 p1,p8 b1,p8 b2,p8 b3,p8 b4,p8 b5]) w1=.ok (.enter 20 #[p8 p1,p8 b1,p8 b2,p8 b3,p8 b4,p8 b5]) w1:=fun _ _ _ _ _ _ _=>cF Cw _ _
  obtain⟨p,m,hNs,hTr⟩:=MO hr;have hT:lM N goal s=.ok (parts ⟨s,l,p⟩ t):=by unfold lM;rw [hr];simp only [];rw [OI s l [] p]
  have HTT:=hid hT;have hsp:=VO hTr;have hcn:=UM HNN.out hr;have hfit:=HNN.out.fit _ _ _ hNs;clear hT hTr hNs;go_upto_region 2 with fail;have g6:=B8 w1 (.cells #[.slice ta l.length tc] 34);have g8:=B8 (w1.alloc (.cells #[.slice ta l.length tc] 34)) (.cells #[i8 0,i8 0] 28);have hb2:=((N' w1.heap.size w1).alloc (C' _) (Obj.cells #[.slice ta l.length tc] 34)).alloc Cu (Obj.cells #[i8 0,i8 0] 28);have g6':=(((N' (w1.alloc (.cells #[.slice ta l.length tc] 34)).heap.size _).alloc (C' _) (Obj.cells #[i8 0,i8 0] 28)).block w1.heap.size Cu).trans g6;have hszB:((w1.alloc (.cells #[.slice ta l.length tc] 34)).alloc (.cells #[i8 0,i8 0] 28)).heap.size=w1.heap.size+1+1:=Cu
  rw [World.size_alloc] at g8;have hs1:=hb.size;have g5:=(hb2.block _ Cs).trans ((hb.block _ Cs).trans b5);have g3:=(hb2.block _ Cs).trans ((hb.block _ Cs).trans b3');generalize ((w1.alloc (.cells #[.slice ta l.length tc] 34)).alloc (.cells #[i8 0,i8 0] 28))=wB at *;obtain⟨e1,e2,_,_⟩:=YB g8;have d3:wB.cell? (y8 w.heap.size 0)=some (.string ⟨s.toArray⟩):=by simp [World.cell?,g3]
  have d6:wB.cell? (y8 w1.heap.size 0)=some (.slice ta l.length tc):=by simp [World.cell?,g6']
  have hD:∀ o,(wB.alloc o).cell? (y8 w.heap.size 0)=some (.string ⟨s.toArray⟩):=fun o=>aA ((N' _ _).alloc (C' _) _) d3
  clear g6 c3;go_upto_region 7 with fail;obtain⟨f1,f2,f3,f4,hbC,hszC⟩:=kY wB (.cells #[.string ⟨s.toArray⟩,.slice ta l.length tc,.slice none 0 0,i8 0,.bool false] 50) (.cells #[.pointer (some ⟨w1.heap.size+1+1,0,none⟩)] 47) (.cells #[.slice none 0 0] 25) (.cells #[.nilFunc] 51);rw [hszB] at f1 f2 f3 f4 hszC;generalize ((((wB.alloc (.cells #[.string ⟨s.toArray⟩,.slice ta l.length tc,.slice none 0 0,i8 0,.bool false] 50)).alloc (.cells #[.pointer (some ⟨w1.heap.size+1+1,0,none⟩)] 47)).alloc (.cells #[.slice none 0 0] 25)).alloc (.cells #[.nilFunc] 51))=wC at *;have c11:wC.cell? ⟨w1.heap.size+1+1+1+1+1,0,none⟩=some .nilFunc:=by simp [World.cell?,f4]
  have z11:wC.frozen? ⟨w1.heap.size+1+1+1+1+1,0,none⟩=false:=by simp [World.frozen?,f4]
  have k11:=heap_setCell_same wC (w1.heap.size+1+1+1+1+1) 0 _ _ (.func (.func 20) #[] #[p8 w.heap.size,p8 w1.heap.size,.pointer (some ⟨w1.heap.size+1+1+1,0,none⟩),.pointer (some ⟨w1.heap.size+1+1+1+1,0,none⟩),.pointer (some ⟨w1.heap.size+1+1+1+1+1,0,none⟩)]) f4;have g11:=NA (w1.heap.size+1+1+1+1+1) 0 wC (.func (.func 20) #[] #[p8 w.heap.size,p8 w1.heap.size,.pointer (some ⟨w1.heap.size+1+1+1,0,none⟩),.pointer (some ⟨w1.heap.size+1+1+1+1,0,none⟩),.pointer (some ⟨w1.heap.size+1+1+1+1+1,0,none⟩)]);have hFB:Fr [w1.heap.size+1+1+1+1+1] wB (wC.setCell ⟨w1.heap.size+1+1+1+1+1,0,none⟩ (.func (.func 20) #[] #[p8 w.heap.size,p8 w1.heap.size,.pointer (some ⟨w1.heap.size+1+1+1,0,none⟩),.pointer (some ⟨w1.heap.size+1+1+1+1,0,none⟩),.pointer (some ⟨w1.heap.size+1+1+1+1+1,0,none⟩)])):=(Fr.below hbC).trans g11;have hFS:Fr [w1.heap.size+1+1+1+1+1] w1 (wC.setCell ⟨w1.heap.size+1+1+1+1+1,0,none⟩ (.func (.func 20) #[] #[p8 w.heap.size,p8 w1.heap.size,.pointer (some ⟨w1.heap.size+1+1+1,0,none⟩),.pointer (some ⟨w1.heap.size+1+1+1+1,0,none⟩),.pointer (some ⟨w1.heap.size+1+1+1+1+1,0,none⟩)])):=(Fr.below hb2).trans hFB;have hszS:(wC.setCell ⟨w1.heap.size+1+1+1+1+1,0,none⟩ (.func (.func 20) #[] #[p8 w.heap.size,p8 w1.heap.size,.pointer (some ⟨w1.heap.size+1+1+1,0,none⟩),.pointer (some ⟨w1.heap.size+1+1+1+1,0,none⟩),.pointer (some ⟨w1.heap.size+1+1+1+1+1,0,none⟩)])).heap.size=w1.heap.size+1+1+1+1+1+1:=by simpa using hszC
  have q1:=g11.at_ (k:=w1.heap.size+1+1) Ec f1;have q2:=g11.at_ (k:=w1.heap.size+1+1+1) Ec f2;have q3:=g11.at_ (k:=w1.heap.size+1+1+1+1) Ec f3;have q6:=hFB.at_ (k:=w1.heap.size) Ec g6';have q5:=hFB.at_ (k:=w.heap.size+1) Ec g5;have q0:=hFB.at_ (k:=w.heap.size) Ec g3;have q8:=hFB.at_ (k:=w1.heap.size+1) Ec g8;have c11':(wC.setCell ⟨w1.heap.size+1+1+1+1+1,0,none⟩ (.func (.func 20) #[] #[p8 w.heap.size,p8 w1.heap.size,.pointer (some ⟨w1.heap.size+1+1+1,0,none⟩),.pointer (some ⟨w1.heap.size+1+1+1+1,0,none⟩),.pointer (some ⟨w1.heap.size+1+1+1+1+1,0,none⟩)])).cell? ⟨w1.heap.size+1+1+1+1+1,0,none⟩=some (.func (.func 20) #[] #[p8 w.heap.size,p8 w1.heap.size,.pointer (some ⟨w1.heap.size+1+1+1,0,none⟩),.pointer (some ⟨w1.heap.size+1+1+1+1,0,none⟩),.pointer (some ⟨w1.heap.size+1+1+1+1+1,0,none⟩)]):=by simp [World.cell?,k11]
  clear f1 f2 f3 f4 hbC k11 g11 hD d3 d6 e1 e2 g3 g5 g6' g8 b5 b3';go_wp2_with fail;generalize wC.setCell ⟨w1.heap.size+1+1+1+1+1,0,none⟩ (.func (.func 20) #[] #[p8 w.heap.size,p8 w1.heap.size,.pointer (some ⟨w1.heap.size+1+1+1,0,none⟩),.pointer (some ⟨w1.heap.size+1+1+1+1,0,none⟩),.pointer (some ⟨w1.heap.size+1+1+1+1+1,0,none⟩)])=wS at *;have hLie:Lie ({ s:=s,l:=l,pair:=p,ta:=ta,tcap:=tc,pa:=none,pcap:=0,zb:=0,zo:=none }:Ev) (w1.heap.size+1+1) wS:=by
   refine⟨fun i t9 h=>?_,hfit.fits,by have:=hfit.small;show l.length<=_;omega⟩;obtain⟨h0,h1,h2⟩:=lH h;obtain⟨b,e,_,hb2',c0⟩:=GA ht h0;obtain⟨b',e',_,_,c1⟩:=GA ht h1;obtain⟨b'',e'',_,_,c2⟩:=GA ht h2;rw [e] at e' e'';cases e';cases e'';exact⟨b,0,e,Cs,by simpa using hFS.cell Cv c0,by simpa using hFS.cell Cv c1,by simpa using hFS.cell Cv c2⟩
  have hTA:TR ({ s:=s,l:=l,pair:=p,ta:=ta,tcap:=tc,pa:=none,pcap:=0,zb:=0,zo:=none }:Ev) wS (w1.heap.size+1+1) w.heap.size w1.heap.size (w1.heap.size+1+1+1) (w1.heap.size+1+1+1+1) (w1.heap.size+1+1+1+1+1) :=
   ⟨Cs,by simp [World.cell?,q0],by simp [World.cell?,q6],by simp [World.cell?,q2],c11',by simp [World.cell?,q1],by simp [World.cell?,q1],hLie,Cs,Cs,Cs,Cs,Cs,Cs⟩
  have hP0:AH wS (w1.heap.size+1+1+1+1) [] wS:=⟨_,q3,Av _ _ _ _,Fr.refl _ _⟩;have hTS:nA wS (tU wS (w1.heap.size+1+1+1+1)) q t:=nA.kept (w:=w1) (w':=wS) (D:=within wA.heap.size w1.heap.size) (D':=tU wS (w1.heap.size+1+1+1+1)) (fun b hb'=>hFS.block b hb'.2 (by have:=hb'.2;simp;omega)) (fun b hb'=>⟨Jm,Jm⟩) q t hN;refine (AU hTA (cnt t) t (C' _) q [] wS hTS hsp hP0 Cv).mono ?_;rintro e w5 ⟨rfl,nv,n1,n2,n3⟩;rw [Ar] at n2;obtain⟨na,nc,rfl⟩:=xB n2;have m5:=n3.at_ (k:=w.heap.size+1) Cv q5;have m8:=n3.at_ (k:=w1.heap.size+1) Cu q8;have HZ:=hid (Az n2 (Az n3 (Az hFS (Az hb (Az hB (Az hszS (Az hsz hs1)))))));have c10:w5.cell? ⟨w1.heap.size+1+1+1+1,0,none⟩=some (.slice na (parts ⟨s,l,p⟩ t).length nc):=by simp [World.cell?,n1]
  clear ht hFS n2 n3 hb hB hP0 hTS q0 q1 q2 q3 q5 q6 q8 c11' hN hTA hLie hFB;have hn1:w1.heap.size+1≠w.heap.size+1:=Cs
  have hn2:w1.heap.size+1+1+1+1≠w.heap.size+1:=Cs
  obtain⟨d1,d2,d3,d4⟩:=YB m5;obtain⟨e1,e2,e3,e4⟩:=YB m8;obtain⟨s3,s4⟩:=ON m5 (i8 0) (i8 0);have HS:=hid s4;clear s4 m5 m8 n1 hs1 hszS hsz hszB;go_wp2_with fail;go_region
  all_goals (go_wp2_with fail)
  all_goals (
   generalize ((w5.setCell (y8 (w.heap.size+1) 0) (i8 0)).setCell (y8 (w.heap.size+1) 1) (i8 0))=w3 at *;obtain⟨y3,y4,_,_⟩:=YB s3;refine Ca (v:=.tuple #[.slice na (parts ⟨s,l,p⟩ t).length nc,qA 0 0]) ?_ rfl ?_
   ·simp [results,Tryz.results12,go_sem,y3,y4,qA]
   ·rw [HTT.out];obtain⟨z1,z2,z3,z4,z5,z6,z7,z8⟩:=HZ.out;have x1:=HS.out;have hD:Fr [] w3 w3.drew:=Fr.below (N' _ _).drew;refine⟨_,rfl,?_,?_⟩
    ·refine YP (lo:=wS.heap.size) (CD (CD z1 x1 ?_) hD Cu) Cs;intro b hb e;simp at hb;have:=z1.lt b e;omega
    ·have b1:=z5.trans (z4.mono (show w.heap.size<=wA.heap.size by omega));exact (GD x1 (GD z2 (GD z3 b1 Cv) Cv) Cu).drew)
end
section
open Go.RowKit
variable {w:World}
def gZ (goal:UInt8) (s:List UInt8):qK:=tD kE goal s
def nZ (goal:UInt8) (s:List UInt8):=lM kE goal s
end
