import Derived.BigQuiet
import Derived.WalkSpells
import Derived.Deep.RegionHeldLaw
import Derived.Deep.DeepCutAuto
import Derived.Lib.Hide
import Derived.Deep.AppendLies
import Derived.Deep.RegionLaw
import Derived.Deep.RegionHeld3
import Derived.Handy
import Derived.WalkLawsBesides
import Derived.Test.YtjdllofmhglmiaaGreatDoorQAD
namespace Go.Proofs.YtjdllofmhglmiaaGreatDoor
open Lib(hid)
set_option linter.all false
set_option maxHeartbeats 40000000
section
open Go.RowKit
variable{P:Prop}
theorem zaa(h:P:=by
 go_wp2_with (first
 | (go_at_call 217;refine hRd.mono ?_;rintro e w1 ⟨rfl,hB⟩)
 | (go_at_call 218;refine (uC _).mono ?_;rintro e w2 ⟨rfl,rfl⟩)
 | (go_at_call 219;refine (hTr _).mono ?_;rintro e w3 ⟨rfl,hb3⟩;replace hB:=dA hB hb3)
 | (go_at_call 220;refine (hP1 _).mono ?_;rintro e w4 ⟨rfl,rfl⟩)
 | (go_at_call 220;refine (hP2 _).mono ?_;rintro e w5 ⟨rfl,rfl⟩)
 | (go_at_call 221;refine (hIb _).mono ?_;rintro e w6 ⟨rfl,rfl⟩)
 | (go_at_call 147;refine (hIx _ (aA hB hMX.out)).mono ?_;rintro e w7 ⟨rfl,rfl⟩)
 | (go_at_call 222;refine (XA _).mono ?_;rintro e w8 ⟨rfl,hb8⟩;replace hB:=dA hB hb8)
 | (go_at_call 223;refine (hWd _).mono ?_;rintro e w9 ⟨rfl,hb9⟩;replace hB:=dA hB hb9)
 | (go_at_call 224;refine (hSc _).mono ?_;rintro e wa ⟨rfl,hba⟩;replace hB:=dA hB hba)
 | (go_at_call 225;refine (hQs _ (hTT.out.below hB)).mono ?_;rintro e wb ⟨rfl,hbb⟩;replace hB:=dA hB hbb)
 | (go_at_call 226;refine (hSg _).mono ?_;rintro e wc ⟨rfl,rfl⟩))
 go_ret2;exact⟨rfl,hB⟩):P:=h
theorem zab(h:P:=by
 have hb_:=fq H;simp only [FB,bX0,Ns] at hb_;go_wp2_with fail
 try clear hb_
 apply EX7
 ·exact nr
 intro wr H;have Hw:=yC H;clear H;refine Ce (S:=fun w'=>(w'.cell? (y8 w2.heap.size 0)=some (.int .u8 (t2.kind.toNat:Int))/\w'.cell? (y8 w2.heap.size 1)=some (i8 t2.word)/\w'.cell? (y8 w2.heap.size 2)=some (i8 (t2.fr:Int))/\w'.cell? (y8 w2.heap.size 3)=some (i8 (t2.to:Int))/\w'.cell? (y8 w2.heap.size 4)=some (.slice ka2 t2.kids.length cap2))/\(w'.cell? (y8 w5.heap.size 0)=some (.int .u8 (imp.kind.toNat:Int))/\w'.cell? (y8 w5.heap.size 1)=some (i8 imp.word)/\w'.cell? (y8 w5.heap.size 2)=some (i8 (imp.fr:Int))/\w'.cell? (y8 w5.heap.size 3)=some (i8 (imp.to:Int))/\w'.cell? (y8 w5.heap.size 4)=some (.slice ka5 imp.kids.length cap5))) Cw ?_ (fun hHeld=>?_)
 ·exact⟨JX0 Hw mm,JX0 Hw mm⟩
 refine tn_ 0 ?_;refine tn_ 1 ?_;refine tn_ 2 ?_;refine tn_ 3 ?_;refine tn_ 4 ?_;refine Cb (rs:=[5]) Cw Cu (Cc (o:=?_) ?_ (fun Kk hKk=>?_) Cd)
 rotate_left
 ·exact Cf
 go_simp;go_at_call 61;refine VJ (k1:=2) Hw Ek Ct ?_;intro ka6 cap6 w6 H6;go_wp2_with fail;refine hKk.out _ _ ?_ (fun hHeld5=>?_)
 ·exact⟨JX0 H6 mm,JX0 H6 mm⟩
 clear hKk Kk
 try simp only [Act.put,Q',Z',Aa]
 refine Cb (rs:=[6]) Cw Cu (Cc (o:=?_) ?_ (fun Kk hKk=>?_) Cd)
 rotate_left
 ·exact Cf
 go_simp;go_wp2_with fail;have H7:=nX7 (t:=t2) (ka:=ka2) (cap:=cap2) (u:=imp) (kb:=ka5) (cb:=cap5) (v:=xC 2 (L2.map Prod.fst) s.n) (kc:=ka6) (cc:=cap6) H6 at' at' at';refine hKk.out _ _ ?_ (fun hHeld6=>?_)
 ·exact⟨JX0 H7 mm,JX0 H7 mm⟩
 clear hKk Kk
 try simp only [Act.put,Q',Z',Aa]
 refine Cb (rs:=[7]) Cw Cu (Cc (o:=?_) ?_ (fun Kk hKk=>?_) Cd)
 rotate_left
 ·exact Cf
 go_simp;go_at_call 53;refine fX3 (aE H7) (Del.here _) rfl rfl Di ?_;intro t9 ka9 cap9 w9 H9;go_wp2_with fail;refine hKk.out _ _ ?_ (fun hHeld7=>?_)
 ·exact⟨JX0 H9 mm,JX0 H9 mm⟩
 clear hKk Kk
 try simp only [Act.put,Q',Z',Aa]
 refine Cb (rs:=[8]) Cw Cu (Cc (o:=?_) ?_ (fun Kk hKk=>?_) Cd)
 rotate_left
 ·exact Cf
 have hb_:=fb H9;simp only [FB,bX0,Ns] at hb_;go_simp;clear hb_;have H10:=CX4 (p:=wz.heap.size) (t:=t9) (ka:=ka9) (cap:=cap9) H9 pt at'
 try go_wp2_with fail
 refine hKk.out _ _ ?_ (fun hHeld8=>?_)
 ·exact⟨JX0 H10 mm,JX0 H10 mm⟩
 clear hKk Kk
 try simp only [Act.put,Q',Z',Aa]
 refine wpAnyH_done Cw ?_ _;clear hHeld hHeld5 hHeld6 hHeld7 hHeld8;have H:=H10;go_wp2_with fail;exact dk):P:=h
theorem zac(h:P:=by
 have hb_:=fq H;simp only [FB,bX0,Ns] at hb_;go_wp2_with fail
 try clear hb_
 apply EX7
 ·exact nr
 intro wr H
 try simp only [jZ1] at H
 have Hw:=yC H;clear H;have hsub:IntKind.i64.wrap ((s.up.n:Int) - 1)=(s.n:Int):=by have:=AX9 Hw.out.pd;simp [IntKind.wrap,IntKind.bits,IntKind.signed,St.up] at this ⊢;omega
 refine Ce (S:=fun w'=>w'.cell? (y8 c 3)=some (i8 (s.up.n:Int))/\w'.cell? (y8 w7.heap.size 0)=some (.int .u8 (x.kind.toNat:Int))/\w'.cell? (y8 w7.heap.size 1)=some (i8 x.word)/\w'.cell? (y8 w7.heap.size 2)=some (i8 (x.fr:Int))/\w'.cell? (y8 w7.heap.size 3)=some (i8 (x.to:Int))/\w'.cell? (y8 w7.heap.size 4)=some (.slice xa x.kids.length xc)) Cw ?_ (fun hHeld=>?_)
 ·exact⟨(fc Hw).1,JX0 Hw mm⟩
 refine tn_ 0 ?_;refine tn_ 1 ?_;refine tn_ 2 ?_;refine tn_ 3 ?_;refine tn_ 4 ?_;refine tn_ 5 ?_;refine tn_ 6 ?_;refine tn_ 7 ?_;refine Cb (rs:=[8]) Cw Cu (Cc (o:=?_) ?_ (fun Kk hKk=>?_) Cd)
 rotate_left
 ·exact Cf
 go_simp;go_wp2_with fail;have H8:=xX3 (t:=x) (ka:=xa) (cap:=xc) Hw at';refine hKk.out _ _ ?_ (fun hHeld8=>?_)
 ·exact⟨(fc H8).1,JX0 H8 mm⟩
 clear hKk Kk
 try simp only [Act.put,Q',Z',Aa]
 refine Cb (rs:=[9]) Cw Cu (Cc (o:=?_) ?_ (fun Kk hKk=>?_) Cd)
 rotate_left
 ·exact Cf
 go_simp;go_at_call 53;refine fX3 (aE H8) (Del.here _) rfl rfl Di ?_;intro t9 ka9 cap9 w9 H9;go_wp2_with fail;refine hKk.out _ _ ?_ (fun hHeld9=>?_)
 ·exact⟨(fc H9).1,JX0 H9 mm⟩
 clear hKk Kk
 try simp only [Act.put,Q',Z',Aa]
 refine Cb (rs:=[10]) Cw Cu (Cc (o:=?_) ?_ (fun Kk hKk=>?_) Cd)
 rotate_left
 ·exact Cf
 have hb_:=fb H9;simp only [FB,bX0,Ns] at hb_;go_simp;clear hb_;have H10:=CX4 (p:=wz.heap.size+1) (t:=t9) (ka:=ka9) (cap:=cap9) H9 pt at'
 try go_wp2_with fail
 refine hKk.out _ _ ?_ (fun hHeld10=>?_)
 ·exact⟨(fc H10).1,JX0 H10 mm⟩
 clear hKk Kk
 try simp only [Act.put,Q',Z',Aa]
 refine wpAnyH_done Cw ?_ _;clear hHeld hHeld8 hHeld9 hHeld10 hsub;have H:=H10;go_wp2_with fail;exact dk):P:=h
theorem zad(h:P:=by
 have hF8:=H8.out.fr;have m1:=hF8.cell (a:=(y8 w.heap.size 0)) C9 c1;have m2:=hF8.at_ (k:=w.heap.size+1) C9 HN.out.2.2.1;have m3:=hF8.at_ (k:=w.heap.size+1+1) C9 HN.out.2.2.2;have d2:w8.cell? (y8 (w.heap.size+1) 0)=some (p8 q):=by simp [World.cell?,m2]
 have d3:w8.cell? ⟨w.heap.size+1+1,0,none⟩=some (i8 0):=by simp [World.cell?,m3]
 have d4:w8.cell? ⟨w.heap.size+1+1,1,none⟩=some (i8 0):=by simp [World.cell?,m3]
 have z2:w8.frozen? (y8 (w.heap.size+1) 0)=false:=by simp [World.frozen?,m2]
 have z3:w8.frozen? ⟨w.heap.size+1+1,0,none⟩=false:=by simp [World.frozen?,m3]
 have z4:w8.frozen? ⟨w.heap.size+1+1,1,none⟩=false:=by simp [World.frozen?,m3]
 have e0:=TC (i:=0) (v:=p8 q) m2 rfl;have e2:=TC (i:=0) (v:=i8 0) m3 rfl;have e4:=TC (i:=1) (v:=i8 0) m3 rfl;have HE:=hid (Az e0 (Az e2 e4));clear e0 e2 e4;go_wp2_with fail;go_region
 all_goals (go_wp2_with fail)
 rw [HE.out.1,HE.out.2.1,HE.out.2.2];refine gK (w:=w8.drew) (B1:=w.heap.size) rfl rfl m2 m3 ?_;have hT:=H8.out.eq;rw [he,Bb rfl] at hT;exact bK ht hT HN.out.1 HN.out.2.1 HF.out hF8 (by have:=HB.out.2.2.2.1;omega) HB.out.2.2.2.2):P:=h
theorem zae(h:P:=by
 go_wp2_with fail;generalize (((((w.alloc (.cells #[.int .u8 (x.kind.toNat:Int),i8 x.word,i8 (x.fr:Int),i8 (x.to:Int),.slice (some ⟨b,o,none⟩) x.kids.length xc] 60)).alloc zO).alloc zO).alloc (.cells #[.int .u8 (u.kind.toNat:Int),i8 u.word,i8 (u.fr:Int),i8 (u.to:Int),.slice ua u.kids.length uc] 60)).alloc (.cells #[.int .u8 (v.kind.toNat:Int),i8 v.word,i8 (v.fr:Int),i8 (v.to:Int),.slice va v.kids.length vc] 60))=w1 at *;obtain⟨h1,h2,h3,h4,h5⟩:=A.out;have q1:=pX0 h1;have q2:=pX0 h2;have q3:=pX0 h3;have q4:=pX0 h4;have HH:=hid (Az h1 (Az h2 h5));clear h1 h2 h3 h4 h5 A;obtain⟨p,hp⟩:∃ p,p=w.heap.size:=⟨_,rfl⟩;rw [<- hp] at q1 q2 q3 q4 HH hbl l1 l2 l3 m1 m2 n1 n2 n3 hbl2 hbl3 ⊢;have HP:=hid hp;clear hp u0 u1 u2 u3 u4 v0 v1 v2 v3 v4 e4 f4;simp only [bX0] at q1 q2 q3 q4
 try simp only [y8,i8,p8] at *
 go_region;go_wp2_with fail;exact SX5 (t:=u) (u:=zT) (ka:=ua) (ca:=uc) (kb:=none) (cb:=0) (hp:=HP.out) (h1:=HH.out.1) (h2:=HH.out.2.1) (hB:=HH.out.2.2) (k1:=HE.out) (k2:=.inl rfl)):P:=h
theorem zaf(h:P:=by
 have hks:kk < s.length:=Dz
 obtain⟨b,hb⟩:∃ b,b=s[kk]:=⟨_,rfl⟩;have hbq:(s[kk].toNat:Int)=(b.toNat:Int):=by rw [hb]
 have q0:(0:Int)<=(kk:Int):=Cs
 have q1:(kk:Int) < (s.length:Int):=Cs
 have q2:(kk:Int) < (n:Int):=Cs
 obtain⟨iN,hiN,hz0,hz1,hz2⟩:=info_parts Tryz.infoU8;obtain⟨va,vc,rfl⟩:=Grd.ID HO2.out;have hown:=HO2.out;have hwz:=HB4.out.size;have hne2:=FQ8 hown HX2.out.1;have HNE:=hid hne2;clear hb hne2;go_wp2_with (at_builtin;refine wpList_append_lies _ rfl (.tmp 83) (.tmp 88) 32 rfl w.heap.size 5 iN _ 1 1 Tryz.underBs hiN hz0 hz1 hz2 rfl Cs (.slice va bs2.length vc) bs2.length (Lib.byteCells bs2) rfl (hown.alloc _) (y8 wr.heap.size 0) 1 1 [.int .u8 (b.toNat:Int)] rfl rfl (At (cs:=#[.int .u8 (b.toNat:Int)]) (t:=5) (fr:=(0,0)) (B8 wr _)) Dq Cs Da Cs Cv (wr.heap.size+1) Cu ?_);intro gg cap w5 hown5 hgrow5 hat5 hlt5;have HB5:Hid (Below w.heap.size w w5):=hid ((HB4.out.alloc Cs _).grown hgrow5 Cv (fun kk hk=>(hown.lt kk hk).1));have HO5:=hid (PQ5 hown5 hbs2);have HX5:Hid (w5.heap[w2.heap.size]?=some (Obj.cells #[i8 (L:Int),Value.string ⟨s.toArray⟩] 167 (0,0))/\w2.heap.size < w5.heap.size):=hid ⟨JQ5 hgrow5 (by rw [Af _ _ _ HX2.out.2];exact HX2.out.1) (by simp;have:=HX2.out.2;omega) HNE.out,by have h1:=hgrow5.size;have h2:=HX2.out.2;simp at h1;omega⟩;clear hown5 hgrow5 hat5 hlt5 hown hwz hz0 hz1 hz2 hiN HO2 d0 d1 g0 g1;obtain⟨v3,hv3⟩:∃ v3,v3=Value.slice (some ⟨gg,0,none⟩) (bs2.length+1) cap:=⟨_,rfl⟩;rw [<- hv3] at HO5 ⊢;clear hv3;go_wp2_with fail;go_roundw
 case rel=>exact⟨kk+1,Eh,Cs,HO5.out,HX5.out,HB5.out⟩
 case measure=>simp only [intOf];omega):P:=h
theorem zag(h:P:=by
 have hb_:=fq H;simp only [FB,bX0,Ns] at hb_;go_wp2_with fail
 try clear hb_
 refine nrC fun H=>?_
 try simp only [jZ1] at H
 refine kX0 H ?_;intro s w H;have hb_:=fq H;simp only [FB,bX0,Ns] at hb_;go_wp2_with fail
 try clear hb_
 obtain⟨f,Kc,B,hf,hk,hB,H⟩:=lX1 H
 go_loopg [5] K (fun j v wr=>tL E c (fun _=>False) wz F B f Kc (K+1) j v wr)
 case atStart =>
  refine⟨s,[],[],Cu,?_⟩;exact zex
 case round=>exact lr):P:=h
theorem zah(h:P:=by
 go_wp2_with fail
 all_goals (go_ret;exact⟨rfl,rfl⟩)):P:=h
theorem zai(h:P:=by
 obtain⟨tx,hto,hle,rfl,htr⟩:=hrel;have Htr:=hid htr;clear htr hbeg;by_cases hlt:tx < l.length
 · go_wp2_with (first
     | (go_at_call 263;refine (tE _ _).mono ?_;rintro e w1 ⟨rfl,rfl⟩)
     | (go_at_call 264;refine (ZD _ _ Cz).mono ?_;rintro e w1 ⟨rfl,hb⟩))
   all_goals first
     | (go_round
        case rel =>
          have hct:mE l true k tx=true:=Fk
          exact zeu
        case measure=>simp [intOf];omega)
     | (go_ret3
        have hct:mE l true k tx=false:=by
          clear hb;simp only [mE,alB,bat,GL,Bool.or_eq_false_iff,Bool.and_eq_false_iff,decide_eq_false_iff_not]
          simp_all <;> omega
        have hen:QH l true k=tx:=Ge
        refine⟨TG ?_,hb⟩;rw [BG _ _ _ _ hen]
        simp_all)
 · go_wp2_with (first
     | (go_at_call 264;refine (ZD _ _ Cz).mono ?_;rintro e w1 ⟨rfl,hb⟩))
   all_goals
     (go_ret3
      have hen:QH l true k=tx:=Ee
      refine⟨TG ?_,hb⟩;rw [BG _ _ _ _ hen]
      simp_all)):P:=h
theorem zaj(h:P:=by
 have hb_:=fq H;simp only [FB,bX0,Ns] at hb_;go_wp2_with fail
 try clear hb_
 refine nrC fun H=>?_
 try simp only [jZ1] at H
 refine kX0 H ?_;intro s7 w7 H;have hb_:=fq H;simp only [FB,bX0,Ns] at hb_;go_wp2_with fail
 try clear hb_
 refine nrC fun H=>?_
 try simp only [jZ1] at H
 refine IA H ?_;intro w8 H;have hb_:=fq H;simp only [FB,bX0,Ns] at hb_;go_wp2_with fail
 try clear hb_
 refine nrC fun H=>?_
 try simp only [jZ1] at H
 refine kB H (dX0 H.out.pd _ _) ?_;intro w9 H;cases hn3:nx E.toEnv [123] s7 with
 | true =>
  simp only [hn3,Ba,Be,Bf,ZQ9,aX0] at H;have hb_:=fq H;simp only [FB,bX0,Ns] at hb_;go_wp2_with fail
  try clear hb_
  go_meet
  case rel =>
   exact ze2
 | false =>
  simp only [hn3,Ba,Be,Bf,ZQ9,aX0] at H;have hb_:=fq H;simp only [FB,bX0,Ns] at hb_;go_wp2_with fail
  try clear hb_
  refine nrC fun H=>?_
  try simp only [jZ1] at H
  refine jA HD H (ka:=none) (cap:=0) rfl rfl (.inl rfl) ?_;intro t10 ka10 cap10 s10 w10 H;have hb_:=fq H;simp only [FB,bX0,Ns] at hb_;go_wp2_with fail
  try clear hb_
  go_meet
  case rel =>
   exact ze2):P:=h
theorem zak(h:P:=by
 obtain⟨tx,hto,hle,rfl,htr⟩:=hrel;have Htr:=hid htr;clear htr;by_cases hlt:tx < l.length
 · have gi:l[tx]?.getD 0=l[tx]:=by simp [hlt]
   have Gi:=hid gi;clear gi;go_wp2_with fail
   all_goals first
     | (go_round
        case rel =>
          go_tidy;have gi:=Gi.out
          have hct:nX0 l false k tx=true:=Fv
          exact zeu
        case measure=>simp [intOf];omega)
     | (go_ret
        go_tidy;have gi:=Gi.out
        have hct:nX0 l false k tx=false:=by
          exact zey
        have hen:tX0 l false k=tx:=Ge
        exact⟨dE (by rw [hen]),Df⟩)
 · go_wp2_with fail
   go_ret;have hen:tX0 l false k=tx:=Ee
   exact⟨dE (by rw [hen];omega),Df⟩):P:=h
theorem zal(h:P:=by
 obtain⟨tx,hto,hle,rfl,htr⟩:=hrel;have Htr:=hid htr;clear htr;by_cases hlt:tx < l.length
 · have gi:l[tx]?.getD 0=l[tx]:=by simp [hlt]
   have Gi:=hid gi;clear gi;go_wp2_with fail
   all_goals first
     | (go_round
        case rel =>
          go_tidy;have gi:=Gi.out
          have hct:nX0 l true k tx=true:=Fv
          exact zeu
        case measure=>simp [intOf];omega)
     | (go_ret
        go_tidy;have gi:=Gi.out
        have hct:nX0 l true k tx=false:=by
          exact zey
        have hen:tX0 l true k=tx:=Ge
        exact⟨dE (by rw [hen]),Df⟩)
 · go_wp2_with fail
   go_ret;have hen:tX0 l true k=tx:=Ee
   exact⟨dE (by rw [hen];omega),Df⟩):P:=h
theorem zam(h:P:=by
 simp only [hn,Ba,Be,Bf,ZQ9,aX0] at H;have hb_:=fq H;simp only [FB,bX0,Ns] at hb_;go_wp2_with fail
 try clear hb_
 refine nrC fun H=>?_
 try simp only [jZ1] at H
 refine jA HD H rfl rfl (.inr ⟨_,mm,rfl⟩) ?_;intro t ka cap s2 w2 H;have hb_:=fq H;simp only [FB,bX0,Ns] at hb_;go_wp2_with fail
 try clear hb_
 go_roundg gj
 case measure=>omega
 case rel =>
  try simp only [ZQ9,aX0,Be] at H
  apply zX4 (hB:=hB) (hf:=hf) (hk:=hk);exact nr):P:=h
theorem zan(h:P:=by
 go_wp2_with fail;exact uQ4 rfl rfl rfl (vQ4 HR.out _ _) ⟨⟨[],by rw [hT];rfl,Cu⟩,(HB.out.setCell (C' _) _).setCell (C' _) _⟩):P:=h
theorem zao(h:P:=by
 simp only [bX0] at hv;rcases hA2 with h1|h1
 all_goals
  go_in
  go_wp2_with fail
  all_goals go_ret
  all_goals exact⟨rfl,Fg⟩):P:=h
theorem zap(h:P:=by
 go_wp2_with fail;refine HN.out.mono ?_;rintro e w1 ⟨rfl,hb1⟩;have HB1:=hid hb1;clear hb1;go_wp2_with fail;refine (HL.out w1 HB1.out).mono ?_;rintro e w2 ⟨rfl,hk,hp2,hf2⟩;obtain⟨t,st⟩:=F;have hr1:=(Fr.below (X:=[]) HB1.out).at_ Cu HB.out.2.1;have hr2:=hf2.at_ Ki hr1;have HZ:=hid (Az hp2 (Az (((jX1 (c:=c) HB.out.1).trans (jX1 HB1.out)).trans hf2) (Az hr2 (Az HB.out.2.2.2 hk))));have hv:=pX0 hr2;simp only [bX0] at hv;clear hk hp2 hf2 hr1 hr2 hcl;go_wp2_with fail;exact xX2 (t:=t) (ka:=none) (cap:=0) rfl rfl rfl (BX1 HZ.out.2.2.1) ⟨rfl,HZ.out.2.2.2.2,gX3 HZ.out.1 HZ.out.2.2.2.1,EX2 HZ.out.2.1 (C' _)⟩):P:=h
theorem zaq(h:P:=by
 go_wp2_with fail;go_ret;exact⟨rfl,rfl⟩):P:=h
theorem zar(h:P:=by
 refine⟨s,[],[],Cu,?_⟩;exact zex):P:=h
theorem zas(h:P:=by
 have hc_:=fc H;go_wp2_with fail;clear hc_;go_roundg gj
 case measure=>omega
 case rel =>
  try simp only [ZQ9,aX0,Be] at H
  exact WX2 H HP (hid rfl) hk Cu Ek (fun _ h=>nomatch h)):P:=h
theorem zat(h:P:=by
 exact zex):P:=h
theorem zau(h:P:=by
 obtain⟨a9,c9,H9⟩:=nX2 HW HP H;clear H;have H:=H9;clear H9
 try simp only [List.map_append,List.map_cons,List.map_nil] at H
 exact ds):P:=h
theorem zav(h:P:=by
 simp only [bX0] at hv;rcases hA2 with h1|h1
 all_goals
  go_in
  go_wp2_with fail
  all_goals go_ret
  all_goals exact⟨rfl,by first|exact (N' _ _).alloc (C' _) _|exact FX0 HB.out (C' _)⟩):P:=h
theorem zaw(h:P:=by
 go_wp2_with fail
 all_goals (go_ret;exact⟨Iw,rfl⟩)):P:=h
theorem zax(h:P:=by
 go_wp2_with fail
 all_goals (go_ret;exact⟨rfl,by first|exact N' _ _|exact (N' _ _).drew⟩)):P:=h
theorem zay(h:P:=by
 refine⟨s,[(t,ka,cap)],[(t,ka)],Cv,?_⟩;rw [hB.out,hf.out,hk.out];exact zez):P:=h
theorem zaz(h:P:=by
 go_wp2_with fail
 go_region_held3 (fun w'=>w'.cell? (y8 q 4)=some (.slice (some (y8 b9 o9)) 2 c9)/\w'.cell? (y8 b9 o9)=some (p8 pl)/\w'.cell? (y8 b9 (o9+1))=some (p8 pr)/\w'.cell? (y8 pl 4)=some (.slice (some (y8 b8 o8)) 1 c8)/\w'.cell? (y8 b8 o8)=some (p8 pa)/\w'.cell? (y8 pr 4)=some (.slice (some (y8 b7 o7)) 1 c7)/\w'.cell? (y8 b7 o7)=some (p8 pb)) (first|(refine⟨?_,?_,?_,?_,?_,?_,?_⟩;all_goals assumption)|(go_split_ands;refine⟨?_,?_,?_,?_,?_,?_,?_⟩;all_goals assumption)) (fail)
 go_wp2_with fail
 all_goals (go_ret2;exact⟨HB.out.drew,Iw⟩)):P:=h
theorem za0(h:P:=by
 go_wp2_with fail;refine wp_loop_rounds 1 ?_;rw [rounds_succ];go_wp2_with fail;go_ret;exact⟨rfl,N' _ _⟩):P:=h
theorem za1(h:P:=by
 go_wp2_with fail;refine (cQ5 n).mono ?_;rintro e w3 ⟨rfl,hb3⟩;have hR3:=(hb3.block w.heap.size Du).trans HR.out;obtain⟨d0,d1,g0,g1⟩:=tA hR3;have HB3:=hid (HB.out.trans (hb3.mono Du));have HR3:=hid hR3;clear hb3 c0 c1 f0 f1 a0 a1 a2 a3 hR3;go_wp2_with fail;exact uQ4 rfl rfl rfl (vQ4 HR3.out _ _) ⟨⟨fmR n,by rw [hT.out];rfl,gQ7 n⟩,(HB3.out.setCell (C' _) _).setCell (C' _) _⟩):P:=h
theorem za2(h:P:=by
 have m1:=H8.out.fr.cell (a:=(y8 w.heap.size 0)) C9 c1;go_wp2_with fail;simp only [he,Ba,Bf] at H8;refine rG H8 ?_;intro k w' hA;exact AO hA HN.out ht HB.out HF.out c1 hz rfl rfl):P:=h
theorem za3(h:P:=by
 obtain⟨p,rfl,q1,q2,q3⟩:=hA;obtain⟨h0,h1,h2,h3,h4⟩:=q1.cells;have f4:=q1.free 4;have HQ:=hid (Az q1 (Az q2 (Az q3 (hq p rfl))));clear q1 q2 q3 hq;go_wp2_with fail;go_ret;obtain⟨q1,q2,q3,q4⟩:=HQ.out;have hF2:=NA c 4 w2 (.bool g);refine⟨fun q hq=>by cases hq;exact q4,p,rfl,q1.headed g,?_,q3.trans hF2⟩;exact EA.later q2 hF2 (fun k hk=>by simp at hk;subst hk;have:=HB.out.2;omega) (C' _) Cu):P:=h
theorem za4(h:P:=by
 go_wp2_with (first|(go_at_call 221;refine (hI _).mono ?_;rintro e w1 ⟨rfl,rfl⟩)|(go_at_call 281;refine (HW.out _ (H0 _ rfl)).mono ?_;rintro e w2 ⟨rfl,hR2⟩;obtain⟨ov,hblk,hown⟩:=hR2.blk;obtain⟨c0,c1,c2,c3,c4,f1,f2,f3,f4⟩:=CA hblk;have hcv:=cM hown));go_quiet (fail);go_wp2_with fail
 (try simp only [Exit.inBlock,Exit.then]);refine Ca (RC rfl _ _ _) rfl ?_
 exact⟨rfl,(hR2.drewN _).bel⟩):P:=h
theorem za5(h:P:=by
 go_wp2_with fail;go_ret2;exact⟨Kl,HB.out⟩):P:=h
theorem za6(h:P:=by
 have hB6:Below w.heap.size w w6:=(hB3.trans (hb5.mono hp3)).grown hgrow6 Cv (fun j hj=>by have:=(hown3.lt j hj).1;omega);go_roundg (gk - 1)
 case measure=>omega
 case rel=>exact⟨t.to,acc++[t],rfl,by rw [GH,V'];simp only [BF,htf];exact hown6,hF6,hB6,HLR.out,Cs,e4,Jx⟩):P:=h
theorem za7(h:P:=by
 go_wp2_with fail;go_ret;exact⟨Lc,H.out.bel⟩):P:=h
theorem za8(h:P:=by
 go_wp2_with fail;go_ret;exact⟨rfl,N' _ _⟩):P:=h
theorem za9(h:P:=by
 exact (World.cell?_setCell_far _ (y8 w.heap.size 1) ⟨b,i*3+1,none⟩ _ HNE.out).trans ((World.cell?_setCell_far _ (y8 w.heap.size 0) ⟨b,i*3+1,none⟩ _ HNE.out).trans z1)):P:=h
theorem zba(h:P:=by
 obtain⟨h0,h1,h2⟩:=lH h;obtain⟨b,e,_,hb2,c0⟩:=GA ht h0;obtain⟨b',e',_,_,c1⟩:=GA ht h1;obtain⟨b'',e'',_,_,c2⟩:=GA ht h2;rw [e] at e' e'';cases e';cases e'';exact⟨b,0,e,Cs,Jy,by simpa using hF.cell Cu c1,by simpa using hF.cell Cu c2⟩):P:=h
theorem zbb(h:P:=by
 simp only [Bh,Bi,Bq,decide_eq_false_iff_not,ne_eq];by_cases e1:d.1=0
 · rw [Bb (.inl e1)] at HB;omega
 · by_cases e2:d.1=65279
   · by_cases e3:0 < pos
     · rw [Bb (.inr ⟨e2,e3⟩)] at HB;omega
     · rw [Bc Cs] at HB;omega
   · rw [Bc Cs] at HB;omega):P:=h
theorem zbc(h:P:=by
 generalize hq:w.heap.size=q at *;have e1:w1.cell? (y8 q 1)=some (i8 (fr:Int)):=by simp [World.cell?,hbx]
 have e2:w1.cell? (y8 q 2)=some (i8 (tl:Int)):=by simp [World.cell?,hbx]
 clear hbx c0 c1 c2 h1 h0;go_region;go_wp2_with fail;go_ret;subst hq;exact⟨by rw [HW.out,List.drop_take];simp [ByteArray.extract_mk],hB.drew⟩):P:=h
theorem zbd(h:P:=by
 go_wp2_with fail;refine (HR.out _).mono ?_;rintro e w2 ⟨rfl,hb2⟩;have HB2:=hid (dA HB.out hb2);clear hb2;go_wp2_with fail;go_roundw
 case rel=>exact⟨m,rfl,HM.out.1,HB2.out,by rw [<- HU.out,<- HMM.out];exact NX2 _ _ _ Cs (by have:=HM.out;omega)⟩
 case measure=>have:=HM.out;simp [intOf];omega):P:=h
theorem zbe(h:P:=by
 refine⟨h.1,?_⟩;rcases h.2 with h2|⟨g,cap,cur,h1,h2,h3,h4⟩
 ·exact .inl h2
 ·exact .inr ⟨g,cap,cur,h1,h2,hf.at_ (fun m=>hX g m (by rw [h1];rfl)) h3,h4⟩):P:=h
theorem zbf(h:P:=by
 go_roundw
 case rel=>exact⟨k+1,Cs,hr2.drewN nq,Hfin.out,kL hb2 nq⟩
 case measure=>rw [Hn.out];show s.size - wI wx _ < _;rw [Hnum.out];omega):P:=h
theorem zbg(h:P:=by
 exact⟨rfl,rfl⟩):P:=h
theorem zbh(h:P:=by
 go_wp2_with fail;refine hS.out.mono ?_;rintro e w2 ⟨rfl,hb⟩;go_wp2_with fail;exact zfd):P:=h
theorem zbi(h:P:=by
 go_wp2_with fail;refine OA H0 _ ?_;intro w1 H1;clear H0;obtain⟨hpa,hb,hc⟩:=HP.out;have hc1:=H1.out.fr.cell (by simpa using hbc) hc;obtain⟨_,_,hp,_,_⟩:=H1.out.rd.cells;rw [hpa] at hp;clear hpa hc hb;exact ze4):P:=h
theorem zbj(h:P:=by
 unfold mF;rw [ht];exact⟨rfl,(HF.out.trans q3).trans' hF (fun i hi=>.inr F4)⟩):P:=h
theorem zbk(h:P:=by
 have hE:=HE2.out;rw [Bb Cs] at hE;have HE3:=hid hE;clear hE;go_wp2_with fail
 (try simp only [Exit.inBlock,Exit.then]);refine Ca (RC rfl _ _ _) rfl ?_
 exact⟨SX0 HE3.out Gu,(dA HB.out HB2.out).alloc (dA HB.out HB2.out).size _⟩):P:=h
theorem zbl(h:P:=by
 have hE:=HRD.out;rw [wQ6 Cs] at hE;have HE2:=hid hE;have i1:¬ (i:Int) < (l.length:Int):=Cs
 clear hE;go_wp2_with fail
 (try simp only [Exit.inBlock,Exit.then]);refine Ca (RC rfl _ _ _) rfl ?_
 exact⟨SX0 HE2.out.symm Gu,HB.out⟩):P:=h
theorem zbm(h:P:=by
 have h:bnd (iX0 (j+1) f a s) K=bnd (f a s) fun p s=>bnd (if p.1 then iX0 j f p.2 s else some (p.2,s)) K:=by rw [LX0,aX0]
 rw [h] at H;exact H):P:=h
theorem zbn(h:P:=by
 go_wp2_with fail;go_roundw
 case rel=>exact⟨i+1,Eh,Cs,hbel.drew⟩
 case measure=>simp only [intOf];first|omega|(go_num;omega)|go_num):P:=h
theorem zbo(h:P:=by
 cases h1:p==X with
 | true =>
  go_wp2_with fail;go_ret;exact⟨Gf,HW.out⟩
 | false =>
  go_wp2_with fail;go_roundw
  case rel=>exact⟨i+1,Cs,Eh,by first|trivial|rfl,Gf⟩
  case measure=>simp [intOf];omega):P:=h
theorem zbp(h:P:=by
 go_wp2_with (first|(go_at_call 222;refine (XA _).mono ?_;rintro e w2 ⟨rfl,hb2⟩)|(go_at_call 260;refine (aH _).mono ?_;rintro e w3 ⟨rfl,rfl⟩)|(go_at_call 261;refine (hWW _).mono ?_;rintro e w4 ⟨rfl,rfl⟩));go_ret2;exact⟨rfl,dA HI.out.2.1 hb2⟩):P:=h
theorem zbq(h:P:=by
 go_wp2_with fail;refine hS.out.mono ?_;rintro e w2 ⟨rfl,hb⟩;obtain⟨q0,q1,q2,q3⟩:=HYY.out w2 hb;have HB:=hid hb;clear hb n9;go_wp2_with fail;go_region;go_wp2_with fail;go_ret;exact⟨by rw [HW2.out,List.drop_take];simp [ByteArray.extract_mk],HB.out.drew⟩):P:=h
theorem zbr(h:P:=by
 go_wp2_with fail;exact zfd):P:=h
theorem zbs(h:P:=by
 go_wp2_with fail
 all_goals (go_ret2;exact⟨HB.out,Iw⟩)):P:=h
theorem zbt(h:P:=by
 go_wp2_with fail;go_ret;exact⟨rfl,hB.out⟩):P:=h
theorem zbu(h:P:=by
 rw [Bb (.inl h1)] at hu;subst hu;have e1:(n==0)=true:=by simp [h1]
 clear h1 hr hn hlt hpf;go_wp2_with fail;refine (HR.out _).mono ?_;rintro e w2 ⟨rfl,hb2⟩;have HB2:=hid (dA HB.out hb2);clear hb2;go_wp2_with fail;go_ret;exact⟨rfl,HB2.out⟩):P:=h
theorem zbv(h:P:=by
 go_wp2_with fail;go_quiet (fail);go_wp2_with fail
 (try simp only [Exit.inBlock,Exit.then]);refine Ca (RC rfl _ _ _) rfl ?_
 exact⟨jX4 HE2.out Gu Cs,Num.kL HB.out _⟩):P:=h
theorem zbw(h:P:=by
 simpa only [mX0,wX0,want,oA,mA,PA,zA,hX0,ZQ9,aX0] using this):P:=h
theorem zbx(h:P:=by
 go_wp2_with fail;refine kB H0 (HK.out _ H0.out.rd) ?_;intro w1 H1;clear H0;go_wp2_with fail;refine kB H1 (HK.out _ H1.out.rd) ?_;intro w2 H2;clear H1;go_wp2_with fail;go_ret;exact⟨rfl,H2.out.rd,H2.out.fr⟩):P:=h
theorem zby(h:P:=by
 have hc_:=fc H;go_wp2_with fail;clear hc_;go_roundg gj
 case measure=>omega
 case rel =>
  try simp only [ZQ9,aX0,Be] at H
  exact⟨rfl,WX2 H HP hf hk Cu Ek zz⟩):P:=h
theorem zbz(h:P:=by
 go_wp2_with fail;go_ret2;exact⟨by rw [HT.out,<- HL.out];rfl,HB.out⟩):P:=h
theorem zb0(h:P:=by
 have h0:(ByteArray.mk l.toArray).size≠0:=Ey
 unfold dec Lib.decodeGo;rw [Bc h0];have:=Lib.width_le ⟨l.toArray⟩ Cs;simpa [ByteArray.size] using this):P:=h
theorem zb2(h:P:=by
 rcases Nat.lt_or_ge j ps.length with h|h
 ·exact h
 ·rw [As h] at hj;cases hj):P:=h
theorem zb3(h:P:=by
 have hx:(nG p)[i]?=some (i8 x):=by have h':p[i]?=some x:=h;simp [nG,h']
 obtain⟨b,e,_,hb2,c0⟩:=GA hp hx;exact⟨b,0,e,Cs,Jy⟩):P:=h
theorem zb5(h:P:=by
 clear hE hcv;go_wp2_with fail
 (try simp only [Exit.inBlock,Exit.then]);refine Ca (RC rfl _ _ _) rfl ?_
 exact⟨SX0 HE5.out Gu,HB4.out⟩):P:=h
theorem zb6(h:P:=by
 go_wp2_with fail
 (try simp only [Exit.inBlock,Exit.then]);refine Ca (RC rfl _ _ _) rfl ?_
 exact⟨SX0 HE2.out Gu,HB.out⟩):P:=h
theorem zb7(h:P:=by
 obtain⟨h1,h2⟩:=Al.1 ht;rw [Aq h1,h2]):P:=h
theorem zb8(h:P:=by
 apply zX4 (hB:=hB) (hf:=hf) (hk:=hk);exact nr):P:=h
theorem zca(h:P:=by
 simp only [hn,Ba,Be,Bf,ZQ9,aX0] at H;exact ds):P:=h
theorem zcb(h:P:=by
 have HA:=hid (Az hq hA);clear hq hA;go_wp2_with fail;go_ret;exact HA.out):P:=h
theorem zcc(h:P:=by
 go_wp2_with fail
 all_goals (try simp only [Exit.inBlock,Exit.then]);refine Ca (RC rfl _ _ _) rfl ?_
 exact⟨SX0 hE.out hE2.out,hb⟩):P:=h
theorem zcd(h:P:=by
 exact absurd H.out.eq H.out.ne):P:=h
theorem zce(h:P:=by
 cases hm:EQ4 n with
 | true=>right;rw [hm] at hc;exact⟨Ky,hc,by rw [yQ6];simp [hm]⟩
 | false=>left;rw [hm] at hc;exact⟨Ky,hc⟩):P:=h
theorem zcf(h:P:=by
 have h2:E.is n [44]=false:=Gg
 simp only [want,h2,h1,Ba,Bf,PA,Bool.false_and,ZQ9,eX4,mX0];exact mn):P:=h
theorem zcg(h:P:=by
 have:i=a.length:=Cs
 subst this;go_wp2_with fail;go_ret;exact⟨rfl,hbel⟩):P:=h
theorem zci(h:P:=by
 go_wp2_with fail;go_ret;exact fE.mk HA.out):P:=h
theorem zck(h:P:=by
 go_wp2_with fail
 all_goals (try simp only [Exit.inBlock,Exit.then]);refine Ca (RC rfl _ _ _) rfl ?_
 all_goals exact⟨rfl,hb⟩):P:=h
theorem zcl(h:P:=by
 exact⟨rfl,(N' _ _).alloc (C' _) _⟩):P:=h
theorem zcm(h:P:=by
 rw [h.out.eq];exact⟨q,rfl,h.out.rd,nA.kept (fun _ _=>rfl) (fun b hb=>⟨by have:=hb.1;omega,hb.2.1⟩) q u h.out.ex.kids.getLast,h.out.fr⟩):P:=h
theorem zcn(h:P:=by
 go_wp2_with fail;go_ret;exact HA.out):P:=h
theorem zco(h:P:=by
 rw [hB.out];apply oX2 (Z:=[])
 ·exact nr
 ·exact zz):P:=h
theorem zcp(h:P:=by
 go_wp2_with fail;refine HPL.out.mono ?_;rintro e w2 ⟨rfl,rfl⟩;cases bp <;> (go_wp2_with fail;go_ret;exact⟨Iw,rfl⟩)):P:=h
theorem zcq(h:P:=by
 rw [Bi];intro e;exact h2 (Ay.1 Cs)):P:=h
theorem zcr(h:P:=by
 rcases hg with h|h
 ·left;have:=UInt8.lt_iff_toNat_lt.1 h;simp at this;omega
 ·right;have:=UInt8.lt_iff_toNat_lt.1 h;simp at this;omega):P:=h
theorem zcs(h:P:=by
 rw [Bi];intro e;exact h (Ay.1 Cs)):P:=h
theorem zct(h:P:=by
 simp [results,Tryz.results103,go_sem,q0,q1,qA]):P:=h
theorem zcu(h:P:=by
 have hok:okR base l i=true:=Kt
 exact⟨i+1,Cs,Eh,by rw [<- Hv.out,SQ4 _ _ _ hlt,hok];rfl⟩):P:=h
theorem zcw(h:P:=by
 simp [results,Tryz.results81,go_sem,q0,q1,qA]):P:=h
theorem zcx(h:P:=by
 rw [Bc hi];simp only [Ai,ht]):P:=h
theorem zcy(h:P:=by
 go_wp2_with (go_at_call 261;refine (hWW _).mono ?_;rintro e w4 ⟨rfl,rfl⟩);go_ret2;exact⟨by rw [HE.out];rfl,HI.out⟩):P:=h
theorem zcz(h:P:=by
 intro i hi;unfold YD at hi;split at hi
 ·rename_i b2 hb2;simp at hi;subst hi;exact (hh.ex.own.lt _ hb2).1
 ·simp at hi):P:=h
theorem zc0(h:P:=by
 go_wp2_with fail;go_ret;exact⟨by rw [<- HE.out];rfl,HB.out⟩):P:=h
theorem zc1(h:P:=by
 intro i hi;unfold YD at hi;split at hi
 ·rename_i b2 hb2;simp at hi;subst hi;exact (hown.lt _ hb2).1
 ·simp at hi):P:=h
theorem zc2(h:P:=by
 cases k with
 | zero=>trivial
 | succ k =>
  show gX0 Gd (aD E (spec E k) n false) _
  unfold aD;exact mn):P:=h
theorem zc3(h:P:=by
 refine wpAnyH_done Cw ?_ _;clear hHeld c3 c4;have H:=Hw;clear Hw;generalize wr.drew=wd at *;exact ds):P:=h
theorem zc5(h:P:=by
 go_wp2_with fail;go_ret;exact (IV (ZQ (ps':=[]++[q2]) (ts':=[]++[u2]) H7 H7.out.ex.old)).behind HFB.out):P:=h
theorem zc6(h:P:=by
 obtain⟨e1,e2⟩:=n1 hn;exact⟨rfl,hQ5 _ _ _ _ e1⟩):P:=h
theorem zc8(h:P:=by
 cases r with
 | ok a m=>exact hf a m (h a m rfl)
 | bad k=>exact OkS.bad
 | out=>exact fun _ _ h=>Do):P:=h
theorem zc9(h:P:=by
 cases r with
 | ok a m=>exact hf a m (h a m rfl)
 | bad k=>exact OkC.bad
 | out=>exact fun _ _ h=>Do):P:=h
theorem zda(h:P:=by
 go_wp2_with fail;go_ret;exact⟨by rw [HF.out];rfl,rfl⟩):P:=h
theorem zdb(h:P:=by
 exact IG s l0 r (i+1) _ l p m h Ea Cs (hset _ _ _ h3 Cs) h4 h5):P:=h
theorem zdd(h:P:=by
 simp only [wQ4,Bz,Bv,Bq] at h;simpa [bat] using h.1.2):P:=h
theorem zde(h:P:=by
 rw [cX0 (by simp [VX0]) Cs,ZQ9,cX0 Gk Cs];exact mn):P:=h
theorem zdf(h:P:=by
 go_wp2_with fail
 all_goals (go_ret;exact⟨by rw [HW.out];rfl,by first|exact hB|exact hB.drew⟩)):P:=h
theorem zdg(h:P:=by
 rcases h.2 with ⟨rfl,rfl⟩|⟨g,cap,cur,rfl,_⟩
 ·exact⟨_,_,rfl⟩
 ·exact⟨_,_,rfl⟩):P:=h
theorem zdh(h:P:=by
 rw [cX0 Gk Cs];exact mn):P:=h
theorem zdj(h:P:=by
 clear hk;go_wp2_with fail;exact rG H2 (fun _ _ h=>⟨rfl,fun _ hq=>Km,h⟩)):P:=h
theorem zdl(h:P:=by
 intro b hb' e;simp at hb';have:=HTL.out b e;omega):P:=h
theorem zdm(h:P:=by
 simp only [vX1,ZQ9,Be];exact bd _ _ _):P:=h
theorem zdo(h:P:=by
 refine .inr ⟨A,Y,e,hA,hY.resolve_left ?_⟩;intro e0;rw [e0] at hl;simp at hl;omega):P:=h
theorem zdp(h:P:=by
 rw [cX0 Gk Cs];simp only [vX1,ZQ9];exact Bd.some gg):P:=h
theorem zdq(h:P:=by
 rw [hB.out];apply oX2 (Z:=[(t7,ka7),(t,ka),(t4,ka4),(u,ua)])
 ·exact nr
 ·exact zz):P:=h
theorem zdr(h:P:=by
 clear hd hd0;go_wp2_with fail;go_ret;rw [HS.out];exact⟨rfl,Rq.bad_ HR.out true⟩):P:=h
theorem zds(h:P:=by
 intro w;have:=hI0 w;rw [d4] at this;exact this):P:=h
theorem zdt(h:P:=by
 rw [O' hi] at ht;cases ht;exact Aq hi):P:=h
theorem zdu(h:P:=by
 by_cases e:u=95
 ·subst e;simp [sQ4,hu] at h
 ·simp [sQ4,hu,e] at h):P:=h
theorem zdv(h:P:=by
 obtain⟨p,rfl,q1,q2,q3⟩:=hA2;go_wp2_with fail;go_ret;exact⟨p,rfl,q1,q2,q3⟩):P:=h
theorem zdw(h:P:=by
 go_wp2_with fail
 all_goals (go_ret2;exact⟨N' _ _,Iw⟩)):P:=h
theorem zdx(h:P:=by
 exact⟨i+1,Cs,Eh,by rw [<- Hv.out,kQ5 _ _ i hlt,hok];rfl⟩):P:=h
theorem zdy(h:P:=by
 exact⟨y0,y1,y2⟩):P:=h
theorem zd0(h:P:=by
 exact RG s l0 r _ _ e a h):P:=h
theorem zd1(h:P:=by
 exact⟨C' _,h⟩):P:=h
theorem zd3(h:P:=by
 obtain⟨rfl,q1,q2⟩:=hA;exact⟨rfl,fun q hq=>Km,rfl,q1,q2⟩):P:=h
theorem zd4(h:P:=by
 have:=fun h=>hg (.inl (UInt8.lt_iff_toNat_lt.2 h));simp at this;simp;omega):P:=h
theorem zd5(h:P:=by
 have:=fun h=>hg (.inr (UInt8.lt_iff_toNat_lt.2 h));simp at this;simp;omega):P:=h
theorem zd7(h:P:=by
 simp only [Prod.mk.injEq,and_true];omega):P:=h
theorem zd8(h:P:=by
 go_wp2_with fail
 all_goals (go_ret;exact⟨by rw [HV.out];rfl,rfl⟩)):P:=h
theorem zd9(h:P:=by
 rw [hB.out];apply oX2 (Z:=[(t4,ka4),(u,ua)])
 ·exact nr
 ·exact zz):P:=h
theorem zea(h:P:=by
 simp only [ZQ9,Be];exact DX3 hR hB hK hP hN Cs):P:=h
theorem zeb(h:P:=by
 simp only [Bv] at h;rcases h with (h|h)|h <;> simp [h]):P:=h
theorem zec(h:P:=by
 simp [Array.getElem?_eq_none h] at hb):P:=h
theorem zed(h:P:=by
 obtain⟨j',rfl⟩:=hst;rw [<- hL,VG,Bb hkl,Bc hz]
 rfl):P:=h
theorem zee(h:P:=by
 refine⟨s1,t,ka,cap,[],?_⟩;rw [hB.out,hf.out,hk.out];exact nr):P:=h
theorem zef(h:P:=by
 rw [Bb h0] at h;cases h):P:=h
theorem zeg(h:P:=by
 simpa only [want,oA,mA,PA] using this):P:=h
theorem zeh(h:P:=by
 go_wp2_with fail
 all_goals go_ret2
 all_goals exact⟨rfl,hb⟩):P:=h
theorem zei(h:P:=by
 subst e;cases hd;omega):P:=h
theorem zej(h:P:=by
 obtain⟨j',rfl⟩:=hst;rw [<- hL,VG,Bb hkl,Bb hz]):P:=h
theorem zek(h:P:=by
 rw [sQ4,Bc hu,Bb Db] at h;simp [hd] at h):P:=h
theorem zel(h:P:=by
 rw [hB.out];apply oX2 (Z:=[(x,xa)])
 ·exact nr
 ·exact zz):P:=h
theorem zem(h:P:=by
 clear h;exact dc):P:=h
theorem zen(h:P:=by
 have:=H.out.eq;cases this):P:=h
theorem zeo(h:P:=by
 by_cases h0:acc=[]
 ·rw [hm h0]
 ·exact FX2 h0):P:=h
theorem zep(h:P:=by
 go_wp2_with fail;go_ret;exact HA.out.behind HFB.out):P:=h
theorem zeq(h:P:=by
 go_wp2_with fail;go_ret;exact⟨rfl,HW.out⟩):P:=h
theorem zer(h:P:=by
 simp [Addr.add]
 try exact fun h=>h.symm):P:=h
theorem zes(h:P:=by
 go_wp2_with fail;go_big_quiet (fail);have HS2:=sO HS nq;clear HS;go_wp2_with fail;cases he:E.ended n with
 | true =>
  refine AD HS2 true he ?_;intro w8 H8;clear HS2;exact zad
 | false =>
  refine AD HS2 false he ?_;intro w8 H8;clear HS2;exact za2):P:=h
theorem zet(h:P:=by
 go_ret;have e:digitB r=true:=by simp [digitB];omega
 rw [e];exact zbg):P:=h
theorem zeu(h:P:=by
 exact⟨tx+1,Cs,Cs,Eh,by rw [<- Htr.out,BL _ _ _ hct hlt]⟩):P:=h
theorem zev(h:P:=by
 simp only [hn3,Ba,Be,Bf,Bool.not_true,Bu,ZQ9,aX0] at H;have hc_:=fc H;go_wp2_with fail;clear hc_;refine kX0 H ?_;intro s7 w7 H;exact zas):P:=h
theorem zew(h:P:=by
 have d:¬ bv s.b < 0:=fun e=>Dh
 simp only [ho,Bool.false_and,Ba,Bf,ZQ9] at H;clear ho;exact zau):P:=h
theorem zex(h:P:=by
 rw [hB.out,hf.out,hk.out];refine tX1 ?_;simp only [List.map_nil];exact nr):P:=h
theorem zey(h:P:=by
 simp only [nX0,alR,bat,Bool.or_eq_false_iff,Bool.and_eq_false_iff,decide_eq_false_iff_not]
 first|(simp_all;done)|(simp_all;omega)):P:=h
theorem zez(h:P:=by
 refine TX3 (p:=w.heap.size) (L:=[(t,ka,cap)]) (Del.here _) ?_ rfl Cu;simp only [List.map_cons,List.map_nil];exact nr):P:=h
theorem ze0(h:P:=by
 simp only [hn3,Ba,Be,Bf,Bool.not_true,Bu,ZQ9,aX0] at H;exact zas):P:=h
theorem ze1(h:P:=by
 go_wp2_with (go_at_call 294;refine (vI r w).mono ?_;rintro e w1 ⟨rfl,rfl⟩);go_ret;exact zbg):P:=h
theorem ze2(h:P:=by
 refine⟨_,rfl,?_⟩;apply FX3
 ·exact nr
 ·exact zz):P:=h
theorem ze3(h:P:=by
 go_wp2_with fail;refine pX4 H JX7 Cu Ct rfl rfl ?_;intro w H;exact za7):P:=h
theorem ze4(h:P:=by
 go_wp2_with fail
 all_goals (go_ret2;exact⟨by rw [HA.out];rfl,H1.out.rd,H1.out.fr⟩)):P:=h
theorem ze5(h:P:=by
 simp only [hn,Bool.not_true,Ba,Bf,ZQ9] at H;exact zau):P:=h
theorem ze6(h:P:=by
 go_wp2_with fail;refine oX1 H (nX1 H.out.pd _ _ _) ?_;intro w H;exact za7):P:=h
theorem ze7(h:P:=by
 clear hx hD hok hB hz hyr h30 hoy hb e5 hT hy hn hy9 huq hb2 hu26;exact zav):P:=h
theorem ze9(h:P:=by
 have hT:T=0:=Ji
 simp only [xQ6];exact zan):P:=h
theorem zfa(h:P:=by
 have j1:¬ (p:Int) < (l.length:Int):=Cs
 clear hL;exact zbz):P:=h
theorem zfb(h:P:=by
 clear hx hD hok hB hz h30 hoy hT hy hy9 huq hb2 hu26;exact zao):P:=h
theorem zfc(h:P:=by
 simp only [xQ6];exact zan):P:=h
theorem zfd(h:P:=by
 go_ret;exact⟨rfl,hb⟩):P:=h
theorem zfe(h:P:=by
 clear hk hls hrs hD hl hrr has hlk hrk;exact zbs):P:=h
theorem zff(h:P:=by
 have hT:T=0:=by rw [HT.out,hm];rfl
 exact zan):P:=h
end
set_option maxRecDepth 100000
section
open Go.RowKit
variable{P:Prop}
abbrev N':=@Below.refl
abbrev Af:=@Below.heap_alloc
abbrev Ah:=@Below.heap_setCell
abbrev At:=@World.news_of_block
abbrev Av:=@World.ownsRow_nil
abbrev B8:=@heap_alloc_new
abbrev Ca:=@bodyPost_ret
abbrev Cb:=@wpAnyH_ready
abbrev Cc:=@AllReadyH.cons
abbrev Cd:=@AllReadyH.nil
abbrev Ce:=@wp_region_held_drew
theorem Ch(h:P:=by ((try dsimp only);(first|(refine⟨?_,?_⟩;all_goals (first|assumption|exact aA ((N' _ _).alloc (C' _) _) ‹_›))|(go_split_ands;refine⟨?_,?_⟩;all_goals (first|assumption|exact aA ((N' _ _).alloc (C' _) _) ‹_›))))):P:=h
theorem Cr(h:P:=by go_at_call 263;exact PI (tE _ _)):P:=h
theorem Cw(h:P:=by kernel_rfl):P:=h
theorem Eh(h:P:=by go_num):P:=h
theorem Fz(h:P:=by simp [World.cell?,h2]):P:=h
theorem F3(h:P:=by simp [World.cell?,s2]):P:=h
theorem Ga(h:P:=by rw [World.frozen?_alloc_old _ _ _ Cv];exact pf):P:=h
theorem Gc(h:P:=by simp [World.frozen?,h2]):P:=h
theorem Gj(h:P:=by simp [World.cell?,hq1]):P:=h
theorem Hg(h:P:=by simp [World.frozen?,j6]):P:=h
theorem Hh(h:P:=by simp [World.frozen?,j9]):P:=h
theorem Hi(h:P:=by simp [World.frozen?,n6]):P:=h
theorem Hk(h:P:=by rw [heap_setCell_same w c 3 _ _ _ h.blk];rfl):P:=h
theorem Hl(h:P:=by rw [heap_setCell_same w c 4 _ _ _ h.blk];rfl):P:=h
theorem Hz(h:P:=by simp [World.cell?,h3]):P:=h
theorem Ib(h:P:=by simp [World.cell?,j6]):P:=h
theorem Ic(h:P:=by simp [World.cell?,j9]):P:=h
theorem Id(h:P:=by simp [World.cell?,n6]):P:=h
theorem Ie(h:P:=by simp [World.cell?,n9]):P:=h
theorem Ii(h:P:=by rw [heap_setCell_same w c 1 _ _ _ h1];rfl):P:=h
theorem Jv(h:P:=by simp [World.cell?,hb8]):P:=h
theorem Kh(h:P:=by simp [World.cell?,hq]):P:=h
theorem Kp(h:P:=by exact cF Cw _ _):P:=h
end
section
abbrev i8 (x:Int):Value:=.int .i64 x
abbrev y8 (b i:Nat):Addr:=⟨b,i,none⟩
abbrev p8 (b:Nat):Value:=.pointer (some ⟨b,0,none⟩)
open Go.RowKit
structure Fr (X:List Nat) (w w':World):Prop where
 os:w'.os=w.os
 tape:w'.tape=w.tape
 output:w'.output=w.output
 size:w.heap.size<=w'.heap.size
 block:∀ k,k < w.heap.size->k ∉ X->w'.heap[k]?=w.heap[k]?
theorem Fr.refl (X:List Nat) (w:World):Fr X w w:=⟨rfl,rfl,rfl,C' _,fun _ _ _=>rfl⟩
theorem Fr.trans {X:List Nat}{a b c:World} (h:Fr X a b) (k:Fr X b c):Fr X a c :=
 ⟨k.os.trans h.os,k.tape.trans h.tape,k.output.trans h.output,An h.size k.size,fun i hi hx=>(k.block i (Aj hi h.size) hx).trans (h.block i hi hx)⟩
theorem Fr.weaken {X Y:List Nat}{w w':World} (h:Fr X w w') (hs:∀ k,k < w.heap.size->k∈X->k∈Y):Fr Y w w' :=
 ⟨h.os,h.tape,h.output,h.size,fun i hi hx=>h.block i hi (fun e=>hx (hs i hi e))⟩
theorem Fr.trans' {X Y:List Nat}{a b c:World} (h:Fr X a b) (k:Fr Y b c) (hY:∀ i∈Y,i∈X∨a.heap.size<=i):Fr X a c :=
 ⟨k.os.trans h.os,k.tape.trans h.tape,k.output.trans h.output,An h.size k.size,fun i hi hx=>(k.block i (Aj hi h.size) (fun e=>by
  rcases hY i e with e|e
  ·exact hx e
  ·omega)).trans (h.block i hi hx)⟩
theorem Fr.below {X:List Nat}{w w':World} (h:Below w.heap.size w w'):Fr X w w':=⟨h.os,h.tape,h.output,h.size,fun k hk _=>h.block k hk⟩
theorem Fr.grown {w w':World}{row:Option Nat}{X:List Nat} (h:w.grownBy w' row) (hX:∀ k,row=some k->k∈X):Fr X w w' :=
 ⟨h.os,h.tape,h.output,h.size,fun k hk hx=>h.block k hk (fun e=>hx (hX k e.symm))⟩
theorem Fr.set {w:World}{a:Addr}{v:Value}:Fr [a.block] w (w.setCell a v) :=
 ⟨rfl,rfl,rfl,Cu,fun k _ hx=>Ah _ _ _ _ (fun e=>hx (by simp [e]))⟩
theorem Fr.cell {X:List Nat}{w w':World} (h:Fr X w w') {a:Addr}{v:Value} (hx:a.block ∉ X) (hc:w.cell? a=some v):w'.cell? a=some v:=by
 rw [World.cell?_of_block (h.block a.block (World.block_lt_of_cell? w a hc) hx)];exact hc
theorem Fr.at_ {X:List Nat}{w w':World} (h:Fr X w w') {k:Nat}{o:Obj} (hx:k ∉ X) (hc:w.heap[k]?=some o):w'.heap[k]?=some o:=by
 have hk:k < w.heap.size:=by
  rcases Nat.lt_or_ge k w.heap.size with h|h
  ·exact h
  ·simp [Array.getElem?_eq_none h] at hc
 rw [h.block k hk hx];exact hc
structure Ev extends Env where
 ta:Option Addr
 tcap:Nat
 pa:Option Addr
 pcap:Nat
 zb:Nat
 zo:Option Obj
structure Lie (E:Ev) (c:Nat) (w:World):Prop where
 toks:∀ (i:Nat) (t:Tk),E.l[i]?=some t->∃ b o,E.ta=some (y8 b o)/\b < c/\w.cell? ⟨b,o+i*3,none⟩=some (.int .u8 (t.kind.toNat:Int))/\w.cell? ⟨b,o+i*3+1,none⟩=some (i8 (t.fr:Int)) /\
  w.cell? ⟨b,o+i*3+2,none⟩=some (i8 (t.to:Int))
 fits:∀ t∈E.l,t.fr<=t.to/\t.to<=E.s.length
 small:E.l.length<=1099511627776
structure Prs (E:Ev) (c:Nat) (w:World):Prop where
 pairs:∀ (i:Nat) (x:Int),E.pair[i]?=some x->∃ b o,E.pa=some (y8 b o)/\b < c/\w.cell? (y8 b (o+i))=some (i8 x)
 same:E.pair.length=E.l.length
 within:∀ x∈E.pair,-1<=x/\x<=1099511627776
theorem Lie.later {E:Ev}{c:Nat}{X:List Nat}{w w':World} (h:Lie E c w) (hf:Fr X w w') (hX:∀ k∈X,c<=k):Lie E c w':=by
 refine⟨fun i t ht=>?_,h.fits,h.small⟩;obtain⟨b,o,e,hb,h0,h1,h2⟩:=h.toks i t ht;have hn:b ∉ X:=fun m=>Ku
 exact⟨b,o,e,hb,hf.cell hn h0,hf.cell hn h1,hf.cell hn h2⟩
theorem Prs.later {E:Ev}{c:Nat}{X:List Nat}{w w':World} (h:Prs E c w) (hf:Fr X w w') (hX:∀ k∈X,c<=k):Prs E c w':=by
 refine⟨fun i x hx=>?_,h.same,h.within⟩;obtain⟨b,o,e,hb,h0⟩:=h.pairs i x hx;exact⟨b,o,e,hb,hf.cell (fun m=>Ku) h0⟩
structure Rd (E:Ev) (c:Nat) (n:Nat) (g:Bool) (w:World):Prop where
 blk:w.heap[c]?=some (.cells #[.string ⟨E.s.toArray⟩,.slice E.ta E.l.length E.tcap,.slice E.pa E.pair.length E.pcap,i8 (n:Int),.bool g] 50 (0,0))
 lie:Lie E c w
 prs:Prs E c w
 at_:n<=E.l.length
 z:∀ o,E.zo=some o->E.zb≠c/\w.heap[E.zb]?=some o
theorem Rd.cells {E:Ev}{c n:Nat}{g:Bool}{w:World} (h:Rd E c n g w) :
  w.cell? (y8 c 0)=some (.string ⟨E.s.toArray⟩)/\w.cell? (y8 c 1)=some (.slice E.ta E.l.length E.tcap)/\w.cell? (y8 c 2)=some (.slice E.pa E.pair.length E.pcap) /\
  w.cell? (y8 c 3)=some (i8 (n:Int))/\w.cell? (y8 c 4)=some (.bool g):=by
 have hb:=h.blk;refine⟨?_,?_,?_,?_,?_⟩ <;> simp [World.cell?,hb]
theorem Rd.free {E:Ev}{c n:Nat}{g:Bool}{w:World} (h:Rd E c n g w) (i:Nat):w.frozen? (y8 c i)=false:=by
 have hb:=h.blk;simp [World.frozen?,hb]
theorem Rd.lt {E:Ev}{c n:Nat}{g:Bool}{w:World} (h:Rd E c n g w):c < w.heap.size:=by
 have hb:=h.blk;rcases Nat.lt_or_ge c w.heap.size with h|h
 ·exact h
 ·exact zec
theorem Rd.zlt {E:Ev}{c n:Nat}{g:Bool}{w:World} (h:Rd E c n g w):E.zo=none∨E.zb < w.heap.size:=by
 cases hz:E.zo with
 | none=>exact .inl rfl
 | some o =>
  right
  obtain⟨_,hb⟩:=h.z o hz;rcases Nat.lt_or_ge E.zb w.heap.size with h|h
  ·exact h
  ·exact zec
theorem Rd.later {E:Ev}{c n:Nat}{g:Bool}{w w':World}{X:List Nat} (h:Rd E c n g w) (hf:Fr X w w') (hX:∀ k∈X,c < k) (hz:E.zo=none∨E.zb ∉ X):Rd E c n g w' :=
 ⟨hf.at_ (fun m=>by have:=hX c m;omega) h.blk,h.lie.later hf (fun k m=>Nat.le_of_lt (hX k m)),h.prs.later hf (fun k m=>Nat.le_of_lt (hX k m)),h.at_,fun o ho=>⟨(h.z o ho).1,hf.at_ (hz.resolve_left (by rw [ho];simp)) (h.z o ho).2⟩⟩
theorem Rd.moved {E:Ev}{c n:Nat}{g:Bool}{w:World} (h:Rd E c n g w) (m:Nat) (hm:m<=E.l.length):Rd E c m g (w.setCell (y8 c 3) (i8 (m:Int))) :=
 ⟨Hk,h.lie.later (Fr.set (a:=(y8 c 3))) (fun k m=>Fu),h.prs.later (Fr.set (a:=(y8 c 3))) (fun k m=>Fu),hm,fun o ho=>⟨(h.z o ho).1,(Fr.set (a:=(y8 c 3))).at_ (by simpa using (h.z o ho).1) (h.z o ho).2⟩⟩
theorem Rd.headed {E:Ev}{c n:Nat}{g:Bool}{w:World} (h:Rd E c n g w) (g':Bool):Rd E c n g' (w.setCell (y8 c 4) (.bool g')) :=
 ⟨Hl,h.lie.later (Fr.set (a:=(y8 c 4))) (fun k m=>Fu),h.prs.later (Fr.set (a:=(y8 c 4))) (fun k m=>Fu),h.at_,fun o ho=>⟨(h.z o ho).1,(Fr.set (a:=(y8 c 4))).at_ (by simpa using (h.z o ho).1) (h.z o ho).2⟩⟩
def nJ (w:World) (D:Nat->Prop) (ka:Option Addr) (ps:List Nat):Prop :=
 ps=[]∨∃ b o,ka=some (y8 b o)/\D b/\∀ (j p:Nat),ps[j]?=some p->w.cell? (y8 b (o+j))=some (p8 p)
mutual
def nA (w:World) (D:Nat->Prop):Nat->Tr->Prop
 | p,.mk k wd f t ks=>D p/\∃ (ka:Option Addr) (cap:Nat) (ps:List Nat),w.heap[p]?=some (.cells #[.int .u8 (k.toNat:Int),i8 wd,i8 (f:Int),i8 (t:Int),.slice ka ks.length cap] 54 (0,0)) /\
  nJ w D ka ps/\fA w D ps ks
def fA (w:World) (D:Nat->Prop):List Nat->List Tr->Prop
 | [],[]=>True
 | p::ps,t::ts=>nA w D p t/\fA w D ps ts
 | _,_=>False
end
theorem nJ.kept {w w':World}{D D':Nat->Prop}{ka:Option Addr}{ps:List Nat} (h:nJ w D ka ps) (hk:∀ b,D b->w'.heap[b]?=w.heap[b]?) (hd:∀ b,D b->D' b):nJ w' D' ka ps:=by
 rcases h with h|⟨b,o,e,hb,hc⟩
 ·exact .inl h
 ·refine .inr ⟨b,o,e,hd b hb,fun j p hj=>?_⟩;rw [World.cell?_of_block (a:=(y8 b (o+j))) (hk b hb)];exact hc j p hj
mutual
theorem nA.kept {w w':World}{D D':Nat->Prop} (hk:∀ b,D b->w'.heap[b]?=w.heap[b]?) (hd:∀ b,D b->D' b):∀ (p:Nat) (t:Tr),nA w D p t->nA w' D' p t
 | p,.mk k wd f t ks,⟨a,ka,cap,ps,hb,hp,hn⟩=>⟨hd p a,ka,cap,ps,by rw [hk p a];exact hb,hp.kept hk hd,fA.kept hk hd ps ks hn⟩
theorem fA.kept {w w':World}{D D':Nat->Prop} (hk:∀ b,D b->w'.heap[b]?=w.heap[b]?) (hd:∀ b,D b->D' b):∀ (ps:List Nat) (ts:List Tr),fA w D ps ts->fA w' D' ps ts
 | [],[],_=>trivial
 | p::ps,t::ts,⟨a,b⟩=>⟨nA.kept hk hd p t a,fA.kept hk hd ps ts b⟩
 | [],_::_,h=>h.elim
 | _::_,[],h=>h.elim
end
theorem fA.len {w:World}{D:Nat->Prop}:∀ {ps:List Nat}{ts:List Tr},fA w D ps ts->ps.length=ts.length
 | [],[],_=>rfl
 | _::ps,_::ts,⟨_,b⟩=>by simp [fA.len b]
 | [],_::_,h=>h.elim
 | _::_,[],h=>h.elim
theorem fA.append {w:World}{D:Nat->Prop}:∀ {ps qs:List Nat}{ts us:List Tr},fA w D ps ts->fA w D qs us->fA w D (ps++qs) (ts++us)
 | [],_,[],_,_,k=>k
 | _::_,_,_::_,_,⟨a,b⟩,k=>⟨a,fA.append b k⟩
 | [],_,_::_,_,h,_=>h.elim
 | _::_,_,[],_,h,_=>h.elim
theorem fA.get {w:World}{D:Nat->Prop}:∀ {ps:List Nat}{ts:List Tr} (j:Nat) (t:Tr),fA w D ps ts->ts[j]?=some t->∃ p,ps[j]?=some p/\nA w D p t
 | [],[],j,t,_,h=>Dd
 | p::ps,u::ts,0,t,⟨a,_⟩,h=>by simp at h;subst h;exact⟨p,rfl,a⟩
 | p::ps,u::ts,j+1,t,⟨_,b⟩,h=>by
  obtain⟨q,hq,hn⟩:=fA.get j t b Dp;exact⟨q,by simpa using hq,hn⟩
 | [],_::_,_,_,h,_=>h.elim
 | _::_,[],_,_,h,_=>h.elim
def within (lo hi:Nat):Nat->Prop:=fun b=>lo<=b/\b < hi
abbrev rM (w:World) (lo hi:Nat) (ka:Option Addr) (ps:List Nat):Prop:=nJ w (within lo hi) ka ps
abbrev EA (w:World) (lo hi p:Nat) (t:Tr):Prop:=nA w (within lo hi) p t
abbrev iG (w:World) (lo hi:Nat) (ps:List Nat) (ts:List Tr):Prop:=fA w (within lo hi) ps ts
theorem rM.kept {w w':World}{lo hi lo' hi':Nat}{ka:Option Addr}{ps:List Nat} (h:rM w lo hi ka ps) (hk:∀ b,lo<=b->b < hi->w'.heap[b]?=w.heap[b]?) (h1:lo'<=lo) (h2:hi<=hi'):rM w' lo' hi' ka ps :=
 nJ.kept h (fun b hb=>hk b hb.1 hb.2) (fun b hb=>⟨An h1 hb.1,Aj hb.2 h2⟩)
theorem EA.kept {w w':World}{lo hi lo' hi':Nat} (hk:∀ b,lo<=b->b < hi->w'.heap[b]?=w.heap[b]?) (h1:lo'<=lo) (h2:hi<=hi') (p:Nat) (t:Tr) (h:EA w lo hi p t):EA w' lo' hi' p t :=
 nA.kept (fun b hb=>hk b hb.1 hb.2) (fun b hb=>⟨An h1 hb.1,Aj hb.2 h2⟩) p t h
theorem iG.kept {w w':World}{lo hi lo' hi':Nat} (hk:∀ b,lo<=b->b < hi->w'.heap[b]?=w.heap[b]?) (h1:lo'<=lo) (h2:hi<=hi') (ps:List Nat) (ts:List Tr) (h:iG w lo hi ps ts):iG w' lo' hi' ps ts :=
 fA.kept (fun b hb=>hk b hb.1 hb.2) (fun b hb=>⟨An h1 hb.1,Aj hb.2 h2⟩) ps ts h
theorem EA.later {X:List Nat}{w w':World}{lo hi hi' p:Nat}{t:Tr} (h:EA w lo hi p t) (hf:Fr X w w') (hX:∀ k∈X,k < lo∨hi<=k) (h1:hi<=w.heap.size) (h2:hi<=hi'):EA w' lo hi' p t :=
 EA.kept (fun b hb1 hb2=>hf.block b Cs (fun m=>Ku)) (C' _) h2 p t h
def YC (w:World) (p:Nat) (k:UInt8) (wd:Int) (f t:Nat) (kv:Value):Prop :=
 w.heap[p]?=some (.cells #[.int .u8 (k.toNat:Int),i8 wd,i8 (f:Int),i8 (t:Int),kv] 54 (0,0))
def Up (k:Nat):Ending:=.panicked [{ v:=.iface 79 (i8 (k:Int)),recovered:=false }]
def Did (E:Ev) (c:Nat) (g:Bool) (r:R Unit) (w:World) (e:Ending) (w':World):Prop :=
 match r with
 | .ok _ n=>e=.returned (.tuple #[])/\Rd E c n g w'/\Fr [c] w w'
 | .bad k=>e=Up k/\(∃ g',Rd E c k g' w')/\Fr [c] w w'
 | .out=>False
def Ans (E:Ev) (c:Nat) (g:Bool) (r:R Tr) (w:World) (e:Ending) (w':World):Prop :=
 match r with
 | .ok t n=>∃ p,e=.returned (p8 p)/\Rd E c n g w'/\EA w' w.heap.size w'.heap.size p t/\Fr [c] w w'
 | .bad k=>e=Up k/\(∃ g',Rd E c k g' w')/\Fr [c] w w'
 | .out=>False
end
section
def spW (k:UInt8) (w:List UInt8):Bool :=
 if k=3∨k=4 then [[105,109,112,111,114,116],[99,111,110,115,116],[118,97,114],[116,121,112,101]].contains w
 else if k=36 then [[43],[45],[33],[94],[38],[60,45]].contains w
 else if k=37 then decide (1<=DD w)
 else if k=45 then [[99,104,97,110],[60,45]].contains w
 else if k=52 then [[43,43],[45,45]].contains w
 else if k=53 then assigns w
 else if k=57 then [[98,114,101,97,107],[99,111,110,116,105,110,117,101],[103,111,116,111],[102,97,108,108,116,104,114,111,117,103,104]].contains w
 else if k=5 then w==[]||w==[46]
 else if k=7 then w==[]||w==[61]
 else if k=15∨k=34 then w==[]||w==[46,46,46]
 else if k=66 then w==[]||w==[61]||w==[58,61]
 else w==[]
def gB (E:Env) (k:UInt8) (wd:Int):Bool :=
 if k=26 then E.named wd else if k=27 then E.literal wd
 else if wd=-1 then spW k [] else decide (0<=wd)&&(E.word wd != [])&&spW k (E.word wd)
def rZ1 (E:Env) (wd:Int) (ks:List Tr):Prop:=E.word wd=[60,45]∨∃ x r,ks=x::r/\(wd+1 < (x.fr:Int)↔E.word (wd+1)=[60,45])
variable {E:Env}{S:AB}
mutual
def Sp (E:Env):Tr->Prop
 | .mk k wd _ _ ks=>if k=45 then (gB E k wd=true/\rZ1 E wd ks)/\Sps E ks else gB E k wd=true/\Sps E ks
def Sps (E:Env):List Tr->Prop
 | []=>True
 | t::ts=>Sp E t/\Sps E ts
end
theorem Sp.out {k:UInt8}{wd:Int}{f n:Nat}{ks:List Tr} (h:Sp E (.mk k wd f n ks)):gB E k wd=true/\Sps E ks:=by
 rw [Sp] at h;split at h
 ·exact⟨h.1.1,h.2⟩
 ·exact h
theorem lZ1 {k:UInt8}{wd:Int}{f n:Nat}{ks:List Tr} (h:gB E k wd=true) (hk:(k=45)=False) (hs:Sps E ks):Sp E (.mk k wd f n ks):=by
 rw [Sp,Bc (by rw [hk];exact id)];exact⟨h,hs⟩
theorem oZ1 {k:UInt8} (h:gB E k (-1)=true):(k=45)=False:=eq_false fun e=>by subst e;exact absurd (show false=true from h) Ct
theorem Sps.append:∀ {a b:List Tr},Sps E a->Sps E b->Sps E (a++b)
 | [],_,_,h=>h
 | _::_,_,⟨h1,h2⟩,h=>⟨h1,Sps.append h2 h⟩
theorem Sps.snoc {a:List Tr}{t:Tr} (h:Sps E a) (ht:Sp E t):Sps E (a++[t]):=Sps.append h ⟨ht,trivial⟩
theorem Sps.mem:∀ {a:List Tr}{t:Tr},Sps E a->t∈a->Sp E t
 | _::_,_,⟨h1,h2⟩,h=>by
  rcases List.mem_cons.1 h with rfl|h
  ·exact h1
  ·exact Sps.mem h2 h
theorem Sp.kids {t:Tr} (h:Sp E t):Sps E t.kids:=by obtain⟨k,w,f,n,ks⟩:=t;exact h.out.2
theorem Sp.list {k:UInt8}{ks:List Tr}{n:Nat} (h:Sps E ks) (hk:gB E k (-1)=true):Sp E (xC k ks n):=by
 cases ks with
 | nil=>exact lZ1 hk (oZ1 hk) trivial
 | cons a b=>exact lZ1 hk (oZ1 hk) h
theorem DB {k:UInt8}{n:Nat} (h:gB E k (-1)=true):Sp E (vA k n):=lZ1 h (oZ1 h) trivial
theorem MK {k:UInt8}{n:Nat}{w:List UInt8} (hk:(k=26∨k=27)=False) (h:E.word (n:Int)=w) (hw:w≠[]) (hs:spW k w=true):gB E k (n:Int)=true:=by
 subst h;have h1:¬ k=26:=fun e=>by rw [<- hk];exact .inl e
 have h2:¬ k=27:=fun e=>by rw [<- hk];exact .inr e
 unfold gB;rw [Bc h1,Bc h2,Bc Cs];simp [hs,hw]
theorem ZM {k:UInt8}{n:Nat}{x:UInt8}{w:List UInt8} (hk:(k=26∨k=27)=False) (h:E.is n (x::w)=true) (hs:spW k (x::w)=true):gB E k (n:Int)=true :=
 MK hk (B7 h) (List.cons_ne_nil _ _) hs
theorem BP {n least:Nat} (h0:1<=least) (h:¬ DD (E.word (n:Int)) < least):gB E 37 (n:Int)=true:=by
 have h1:1<=DD (E.word (n:Int)):=Cs
 refine MK Ct rfl (fun e=>?_) ?_
 ·rw [e] at h1;revert h1;decide
 ·show decide (1<=DD (E.word (n:Int)))=true
  exact decide_eq_true h1
def OkS (E:Env) (r:R Tr):Prop:=∀ a m,r=.ok a m->Sp E a
def xM (E:Env) (a:List Tr × Int):Prop:=Sps E a.1/\(a.2=-1∨∃ w:Nat,a.2=(w:Int)/\E.word (w:Int)=[46,46,46])
def OkR (E:Env) (r:R (List Tr × Int)):Prop:=∀ a m,r=.ok a m->xM E a
theorem OkS.bad {k:Nat}:OkS E (.bad k):=fun _ _ h=>Do
theorem OkS.ok {a:Tr}{m:Nat} (h:Sp E a):OkS E (.ok a m):=fun _ _ e=>Iv
theorem OkR.ok {a:List Tr × Int}{m:Nat} (h:xM E a):OkR E (.ok a m):=fun _ _ e=>Iv
theorem OkS.ite {c:Prop} [Decidable c] {a b:R Tr} (h1:c->OkS E a) (h2:¬ c->OkS E b):OkS E (if c then a else b):=by
 exact zb4
theorem OkR.ite {c:Prop} [Decidable c] {a b:R (List Tr × Int)} (h1:OkR E a) (h2:OkR E b):OkR E (if c then a else b):=Ij
theorem OkS.sub {r:R Tr}{f:Tr->Nat->R Tr} (h:OkS E r) (hf:∀ a m,Sp E a->OkS E (f a m)):OkS E (r.andThen f):=by
 exact zc8
theorem OkS.subP {r:R (List Tr × Int)}{f:List Tr × Int->Nat->R Tr} (h:OkR E r) (hf:∀ a m,xM E a->OkS E (f a m)):OkS E (r.andThen f):=by
 exact zc8
theorem OkS.want {w:List UInt8}{n:Nat}{f:Unit->Nat->R Tr} (hf:∀ m,OkS E (f () m)):OkS E ((want E w n).andThen f):=by
 unfold Go.Proofs.YtjdllofmhglmiaaGreatDoor.want;split
 ·exact hf _
 ·exact OkS.bad
theorem OkR.want {w:List UInt8}{n:Nat}{f:Unit->Nat->R (List Tr × Int)} (hf:∀ m,OkR E (f () m)):OkR E ((want E w n).andThen f):=by
 unfold Go.Proofs.YtjdllofmhglmiaaGreatDoor.want;split
 ·exact hf _
 ·exact fun _ _ h=>Do
theorem dL {n:Int} (h:E.quoted n=true):E.literal n=true:=by
 unfold Env.quoted at h;unfold Env.literal;rw [B7 h];rfl
theorem WK {n:Nat}:OkS E (LC E n):=by
 unfold LC leaf;exact OkS.ite (fun h=>OkS.ok ⟨h,trivial⟩) (fun _=>OkS.bad)
theorem PL {n:Nat}:OkS E (TH E n):=by
 unfold TH leaf;exact OkS.ite (fun h=>OkS.ok ⟨dL h,trivial⟩) (fun _=>OkS.bad)
theorem EU {n:Nat}:OkS E (zH E n):=by unfold zH;exact OkS.ite (fun _=>PL) (fun _=>OkS.ok ⟨Db,trivial⟩)
def spF (E:Env) (n:Nat):F->Prop
 | .fileImports a b=>Sp E a/\Sps E b|.fileDecls a b c=>Sp E a/\Sp E b/\Sps E c
 | .group|.declared=>gB E 4 (n:Int)=true|.branch=>gB E 57 (n:Int)=true
 | .namesMore a=>Sps E a|.unionMore a=>Sps E a|.members k _=>gB E k (-1)=true
 | .exprsMore a=>Sps E a|.typesMore a=>Sps E a|.binMore l _ x=>1<=l/\Sp E x|.binary l=>1<=l|.primMore _ x=>Sp E x|.dot _ x=>Sp E x|.call _ x=>Sp E x|.index _ x=>Sp E x
 | .indexMore _ x a=>Sp E x/\Sps E a|.slice _ x lo=>Sp E x/\Sp E lo|.stmtsMore a=>Sps E a|.rest _ l=>Sp E l|.clauses k _=>gB E k (-1)=true|.clausesMore k _ a=>gB E k (-1)=true/\Sps E a
 | .overall _ wd l=>Sp E l/\gB E 66 wd=true
 | _=>True
def OkB (fr:Nat) (r:R Tr):Prop:=∀ a m,r=.ok a m->a.fr=fr
theorem OkB.ite {fr:Nat}{c:Prop} [Decidable c] {a b:R Tr} (h1:OkB fr a) (h2:OkB fr b):OkB fr (if c then a else b):=Ij
theorem OkB.sub {α:Type}{fr:Nat}{r:R α}{f:α->Nat->R Tr} (hf:∀ a m,r=.ok a m->OkB fr (f a m)):OkB fr (r.andThen f):=by
 cases r with
 | ok a m=>exact hf a m rfl
 | bad k=>exact fun _ _ e=>Ld
 | out=>exact fun _ _ e=>Ld
theorem qZ1 {n:Nat}:OkB n (LC E n):=by unfold LC leaf;exact OkB.ite (fun _ _ e=>by cases e;rfl) (fun _ _ e=>Ld)
structure zJ (E:Env) (S:AB):Prop where
 b:∀ n g fr,OkB n (S.t .typ n g)/\OkB n (S.t .typeName n g)/\OkB fr (S.t (.row fr) n g)
 t:∀ f n g,spF E n f->OkS E (S.t f n g)
 l:∀ mark shut o acc word n g,xM E (acc,word)->OkR E (S.l mark shut o acc word n g)
theorem BN (H:zJ E S) (a b c:List UInt8) (o:One) (n:Nat) (g:Bool):OkR E (rows E S a b c o n g):=by
 unfold rows;exact OkR.want fun m=>H.l _ _ _ _ _ _ _ ⟨trivial,.inl rfl⟩
theorem zW (H:zJ E S) {fr:Nat}{x:Tr} (h1:Sp E x) (n:Nat) (g:Bool):OkS E (bG E S fr x n g):=by
 unfold bG;refine OkS.subP (BN H _ _ _ _ _ _) (fun a m ha=>OkS.want fun m2=>OkS.ok ?_);obtain⟨a,wd⟩:=a;obtain⟨hs,hw⟩:=ha;refine⟨?_,h1,Sp.list hs Db,trivial⟩;rcases hw with e|⟨w,e,hw⟩
 ·simp only at e;subst e;rfl
 ·simp only at e;subst e;exact MK Ct hw Ct Ct
theorem IQ {n:Nat} (h:assigns (E.word (n:Int))=true):gB E 53 (n:Int)=true:=MK Ct rfl (fun e=>by rw [e] at h;revert h;decide) h
theorem XW (H:zJ E S) {fr:Nat}{left:Tr} (h1:Sp E left) (n:Nat) (g:Bool):OkS E (WF E S fr left n g):=by
 unfold WF;refine OkS.ite (fun hc=>OkS.sub (H.t .exprs _ _ trivial) (fun a m ha=>OkS.ok ⟨IQ hc,h1,ha,trivial⟩)) (fun _=>?_);split
 ·rename_i x hx;have hs:Sp E x:=Sps.mem h1.kids Ej;refine OkS.ite (fun hc=>OkS.ok ⟨?_,hs,trivial⟩) (fun _=>OkS.ite (fun _=>OkS.sub (H.t .expr _ _ trivial) (fun a m ha=>OkS.ok ⟨Db,hs,ha,trivial⟩)) (fun _=>OkS.ok ⟨Db,hs,trivial⟩));simp only [Bv] at hc;rcases hc with hc|hc <;> exact ZM Ct hc Ct
 ·exact OkS.bad
theorem GN {s:Tr} (h:Sp E s) (n:Nat):OkS E (only s n):=by
 unfold only;refine OkS.ite (fun _=>?_) (fun _=>OkS.bad);split
 ·rename_i x r hx;exact OkS.ok (Sps.mem h.kids Ej)
 ·exact OkS.bad
theorem UI (H:zJ E S) {fr:Nat}{a b:Tr} (h1:Sp E a) (h2:Sp E b) (n:Nat) (g:Bool):OkS E (SD E S fr a b n g):=by
 unfold SD;simp only [oA,mA];refine OkS.sub (H.t .block _ _ trivial) (fun c m hc=>?_);refine OkS.ite (fun _=>OkS.ite (fun _=>OkS.sub (H.t .ifs _ _ trivial) (fun d m hd=>OkS.ok ⟨Db,h1,h2,hc,hd,trivial⟩)) (fun _=>OkS.sub (H.t .block _ _ trivial) (fun d m hd=>OkS.ok ⟨Db,h1,h2,hc,hd,trivial⟩))) (fun _=>OkS.ok ⟨Db,h1,h2,hc,DB Db,trivial⟩)
theorem cY (H:zJ E S) (n:Nat) (g:Bool):OkS E (XI E S n g):=by
 unfold XI;refine OkS.ite (fun _=>OkS.sub (H.t .expr _ _ trivial) (fun a m ha=>UI H (DB Db) ha _ _)) (fun _=>OkS.sub (H.t .simple _ _ trivial) (fun s m hs=>OkS.ite (fun _=>OkS.sub (H.t .expr _ _ trivial) (fun a m ha=>UI H hs ha _ _)) (fun _=>OkS.sub (GN hs _) (fun a m ha=>UI H (DB Db) ha _ _))))
theorem ZU {s a b:Tr} (h:Sp E s) (he:asked E s=some (a,b)):Sp E a/\Sp E b:=by
 unfold asked at he;split at he
 ·rename_i x hk hx;have hs:Sp E x:=Sps.mem h.kids Ej;split at he
  ·rename_i y h33 hy;cases he;exact⟨DB (k:=0) (n:=s.fr) Db,Sps.mem hs.kids G4⟩
  ·cases he
 ·rename_i l r hk hx;have hl:Sp E l:=Sps.mem h.kids Ej;have hr:Sp E r:=Sps.mem h.kids Ej;split at he
  ·split at he
   ·rename_i c d hc hd;have h1:Sp E c:=Sps.mem hl.kids (by rw [hc];simp);have h2:Sp E d:=Sps.mem hr.kids Hy;split at he
    ·split at he
     ·rename_i y hy;cases he;exact⟨h1,Sps.mem h2.kids G4⟩
     ·cases he
    ·cases he
   ·cases he
  ·cases he
 ·cases he
theorem pF (H:zJ E S) {fr:Nat}{a t:Tr}{s:Option Tr} (h1:Sp E a) (h2:Sp E t) (h3:∀ x,s=some x->Sp E x) (n:Nat) (g:Bool):OkS E (qB E S fr a s t n g):=by
 have h62:gB E 62 (-1)=true:=Db
 unfold qB;cases s with
 | none=>exact OkS.sub (H.t (.clauses 62 1) _ _ h62) (fun c m hc=>OkS.ok ⟨Db,h1,h2,hc,trivial⟩)
 | some s =>
  have hs:=h3 s rfl
  show OkS E (match asked E s with|some (name,x)=>_|none=>_)
  cases he:asked E s with
  | none=>exact OkS.sub (GN hs _) (fun t2 m ht=>OkS.sub (H.t (.clauses 62 1) _ _ h62) (fun c m hc=>OkS.ok ⟨Db,h1,ht,hc,trivial⟩))
  | some p =>
   obtain⟨x,y⟩:=p;obtain⟨hx,hy⟩:=ZU hs he;exact OkS.sub (H.t (.clauses 62 2) _ _ h62) (fun c m hc=>OkS.ok ⟨Db,h1,hx,hy,hc,trivial⟩)
theorem oH (H:zJ E S) {fr:Nat}{a:Tr} (h1:Sp E a) (n:Nat) (g:Bool):OkS E (nB E S fr a n g):=by
 unfold nB;exact OkS.ite (fun _=>pF H h1 (DB Db) (fun _ h=>Do) _ _) (fun _=>OkS.sub (H.t .simple _ _ trivial) (fun s m hs=>pF H h1 (DB Db) (fun _ h=>Jw) _ _))
theorem SO (H:zJ E S) (n:Nat) (g:Bool):OkS E (qC E S n g):=by
 unfold qC;refine OkS.ite (fun _=>pF H (DB Db) (DB Db) (fun _ h=>Do) _ _) (fun _=>OkS.ite (fun _=>oH H (DB Db) _ _) (fun _=>OkS.sub (H.t .simple _ _ trivial) (fun s m hs=>OkS.ite (fun _=>oH H hs _ _) (fun _=>pF H (DB Db) (DB Db) (fun _ h=>Jw) _ _))))
theorem tK (H:zJ E S) {fr:Nat}{a:Tr} (h1:Sp E a) (n:Nat) (g:Bool):OkS E (kD E S fr a n g):=by
 unfold kD;simp only [oA,mA];refine OkS.want (fun m=>?_);refine OkS.ite (fun _=>OkS.want (fun m=>?_)) (fun _=>OkS.sub (H.t .expr _ _ trivial) (fun c m hc=>OkS.want (fun m=>?_)))
 ·exact OkS.ite (fun _=>OkS.sub (H.t .block _ _ trivial) (fun b m hb=>OkS.ok ⟨Db,h1,DB Db,DB Db,hb,trivial⟩)) (fun _=>OkS.sub (H.t .simple _ _ trivial) (fun d m hd=>OkS.sub (H.t .block _ _ trivial) (fun b m hb=>OkS.ok ⟨Db,h1,DB Db,hd,hb,trivial⟩)))
 ·exact OkS.ite (fun _=>OkS.sub (H.t .block _ _ trivial) (fun b m hb=>OkS.ok ⟨Db,h1,hc,DB Db,hb,trivial⟩)) (fun _=>OkS.sub (H.t .simple _ _ trivial) (fun d m hd=>OkS.sub (H.t .block _ _ trivial) (fun b m hb=>OkS.ok ⟨Db,h1,hc,hd,hb,trivial⟩)))
theorem DW (H:zJ E S) (n:Nat) (g:Bool):OkS E (fG E S n g):=by
 have h66:gB E 66 (-1)=true:=Db
 unfold fG;refine OkS.ite (fun _=>OkS.sub (H.t .block _ _ trivial) (fun b m hb=>OkS.ok ⟨Db,DB Db,DB Db,DB Db,hb,trivial⟩)) (fun _=>?_);refine OkS.ite (fun _=>H.t (.overall _ _ _) _ _ ⟨DB Db,h66⟩) (fun _=>OkS.ite (fun _=>tK H (DB Db) _ _) (fun _=>?_));refine OkS.sub (H.t .exprs _ _ trivial) (fun l m hl=>?_);refine OkS.ite (fun hc=>H.t (.overall _ _ l) _ _ ⟨hl,?_⟩) (fun _=>OkS.sub (H.t (.rest _ l) _ _ hl) (fun s m hs=>?_))
 ·simp only [Bz,Bv] at hc;rcases hc.1 with hc|hc <;> exact ZM Ct hc Ct
 exact OkS.ite (fun _=>tK H hs _ _) (fun _=>OkS.sub (GN hs _) (fun x m hx=>OkS.sub (H.t .block _ _ trivial) (fun b m hb=>OkS.ok ⟨Db,DB Db,hx,DB Db,hb,trivial⟩)))
theorem rU (H:zJ E S) (mark shut:List UInt8) (o:One) (acc:List Tr) (word:Int) (n:Nat) (g:Bool) (h:xM E (acc,word)):OkR E (LF E S mark shut o acc word n g):=by
 unfold LF;refine OkR.ite (OkR.ok h) ?_;obtain⟨h1,h2⟩:=h;simp only at h1 h2;have key:∀ r:R (Tr × Int),(∀ p m,r=.ok p m->xM E ([p.1],p.2))->OkR E (r.andThen fun p n1=>if E.is n1 shut then S.l mark shut o (acc++[p.1]) p.2 n1 g else (want E mark n1).andThen fun _ n2=>S.l mark shut o (acc++[p.1]) p.2 n2 g):=by
  intro r hr;cases r with
  | ok p m =>
   obtain⟨q1,q2⟩:=hr p m rfl;have hp:xM E (acc++[p.1],p.2):=⟨Sps.snoc h1 q1.1,q2⟩;exact OkR.ite (H.l _ _ _ _ _ _ _ hp) (OkR.want fun m=>H.l _ _ _ _ _ _ _ hp)
  | bad k=>exact fun _ _ h=>Do
  | out=>exact fun _ _ h=>Do
 refine key _ ?_;have sub:∀ (r:R Tr) (f:Tr->Nat->R (Tr × Int)),OkS E r->(∀ a m,Sp E a->∀ p m',f a m=.ok p m'->xM E ([p.1],p.2))->∀ p m,r.andThen f=.ok p m->xM E ([p.1],p.2):=by
  exact zc4
 have plain:∀ o':One,spF E n (.one o')->∀ p m,((S.t (.one o') n g).andThen fun x n1=>(.ok (x,word) n1:R (Tr × Int)))=.ok p m->xM E ([p.1],p.2) :=
  fun o' hf=>sub _ _ (H.t _ _ _ hf) (fun a m ha p m' e=>by cases e;exact⟨⟨ha,trivial⟩,h2⟩)
 cases o with
 | call =>
  intro p m e;have e':(if 0<=word then (R.bad n:R (Tr × Int)) else (S.t .expr n g).andThen fun x n1=>if E.is n1 [46,46,46] then .ok (x,(n1:Int)) (n1+1) else .ok (x,word) n1)=.ok p m:=e;split at e'
  ·cases e'
  ·refine sub _ _ (H.t .expr n g trivial) (fun a m ha p m' e=>?_) p m e';split at e
   ·rename_i hd;cases e;exact⟨⟨ha,trivial⟩,.inr ⟨m,rfl,B7 hd⟩⟩
   ·cases e;exact⟨⟨ha,trivial⟩,h2⟩
 | expr=>exact plain .expr trivial
 | param=>exact plain .param trivial
 | tparam=>exact plain .tparam trivial
 | typ=>exact plain .typ trivial
 | field=>exact plain .field trivial
 | elem=>exact plain .elem trivial
 | element=>exact plain .element trivial
 | importSpec=>exact plain .importSpec trivial
 | constSpec=>exact plain .constSpec trivial
 | typeSpec=>exact plain .typeSpec trivial
 | valueSpec=>exact plain .valueSpec trivial
theorem pZ1 (H:zJ E S) (n:Nat) (g:Bool) (fr:Nat):OkB n (tI E S n)/\OkB n (nC E S n g)/\OkB fr (NJ E S fr n):=by
 refine⟨?_,?_,?_⟩
 ·unfold tI wrapT
  repeat' (first|exact (H.b _ _ _).2.2|exact (H.b _ _ 0).2.1|refine OkB.ite ?_ ?_|refine OkB.sub (fun _ _ _=>?_)|exact fun _ _ e=>by cases e <;> rfl)
 ·unfold nC;refine OkB.sub (fun x n1 h=>?_);have hx:=qZ1 x n1 h;clear h;refine OkB.sub (fun y n2 h=>?_);have hy:y.fr=n:=by
   split at h
   ·exact OkB.sub (fun _ _ _=>fun _ _ e=>by cases e;rfl) y n2 h
   ·cases h;exact hx
  repeat' (first|refine OkB.ite ?_ ?_|refine OkB.sub (fun _ _ _=>?_)|exact fun _ _ e=>by cases e <;> first|rfl|exact hy)
 ·unfold NJ wrapT
  repeat' (first|refine OkB.ite ?_ ?_|refine OkB.sub (fun _ _ _=>?_)|exact fun _ _ e=>by cases e <;> rfl)
theorem nZ1 (n:Nat):n+1 < after E [60,45] (n+1)↔E.word ((n:Int)+1)=[60,45]:=by
 unfold after Env.is;rw [show ((n+1:Nat):Int)=(n:Int)+1 from rfl];split
 ·rename_i h;exact⟨fun _=>B7 h,fun _=>Cs⟩
 ·rename_i h;exact⟨fun e=>Cs,fun e=>absurd Eu h⟩
theorem mZ1 (H:zJ E S) {n k:Nat} (hs:gB E 45 (n:Int)=true) (h:E.word (n:Int)=[60,45]∨(n+1 < k↔E.word ((n:Int)+1)=[60,45])):OkS E (wrapT S 45 n n [] k):=by
 unfold wrapT;intro a m e;cases hr:S.t .typ k false with
 | ok t n1 =>
  rw [hr] at e;cases e;have hb:=(H.b k false 0).1 t m hr;refine⟨⟨hs,h.imp id fun hh=>⟨t,[],rfl,?_⟩⟩,H.t .typ k false trivial t m hr,trivial⟩;rw [hb,<- hh];omega
 | bad k=>rw [hr] at e;cases e
 | out=>rw [hr] at e;cases e
theorem sZ1 {P:Prop} (hh:P:=by
 (try have hp3:gB E 3 (n:Int)=true:=hf)
 (try simp only [spF] at hf)
 (first|obtain⟨h1,h2,h3⟩:=hf|obtain⟨h1,h2⟩:=hf|skip)
 simp only [DF,EF,lB,eC,CE,uB,LB,IB,rC,fnB,NB,XD,NE,XC,RD,OD,XB,jB,tI,NJ,CB,nC,WE,kG,ZB,cC,uD,FE,PC,DC,SJ,sE,fC,UE,OB,QC,QE,dC,EE,ZC,lC,aD,oC,UD,dD,cD,rD,mB,PE,wrapT,mC,nH,oA,mA,PA,zA]
 repeat' (first|exact OkS.bad|refine OkS.ite (fun hc=>?_) (fun hd=>?_)|refine OkS.want (fun m=>?_)|refine OkS.sub WK (fun a m ha=>?_)|refine OkS.sub PL (fun a m ha=>?_)|refine OkS.sub EU (fun a m ha=>?_)|refine OkS.subP (BN H _ _ _ _ _ _) (fun a m ha=>?_)|refine OkS.sub (H.t _ _ _ ?_) (fun a m ha=>?_)|exact WK|exact PL|exact (fun _ _ h=>by unfold leaf at h;rw [Bb rfl] at h;cases h;exact⟨Dt,trivial⟩)|refine H.t _ _ _ ?_|refine OkS.ok ?_)
 all_goals (try simp only [spF])
 all_goals first|trivial|assumption|exact C' _|exact Nat.le_add_left _ _|skip
 all_goals (repeat' (first|assumption|exact trivial|exact And.left ‹_›|exact Sps.snoc ‹_› ‹_›|exact DB (Db)|refine Sp.list ?_ ?_|(show gB _ _ (-1)=true;first|assumption|rfl)|exact ZM Ct ‹_› (Ct)|(show gB _ _ (if _ then _ else _)=true;split)|(rw [Bb ‹_›])|(rw [Bc ‹_›])|exact Sps.snoc ‹_› ⟨Ff,Dt,trivial⟩|refine Sps.snoc ‹_› ?_|(simp only [Bv] at hc;(repeat' (rcases hc with hc|hc)) <;> exact ZM Ct hc Ct)|exact BP ‹_› ‹_›|(split <;> rfl)|refine lZ1 ?_ (by first|exact oZ1 ‹_›|(split <;> exact eq_false Ct)) ?_|refine⟨?_,?_⟩))):P:=hh
theorem zX (H:zJ E S):zJ E (step E S):=by
 refine⟨fun n g fr=>pZ1 H n g fr,fun f n g hf=>?_,fun mark shut o acc word n g h=>rU H mark shut o acc word n g h⟩
 show OkS E (DF E S f n g)
 cases f
 case call=>exact zW H hf n g
 case rest=>exact XW H hf n g
 case ifs=>exact cY H n g
 case switches=>exact SO H n g
 case fors=>exact DW H n g
 case exprs=>exact OkS.sub (H.t .expr n g trivial) (fun x m hx=>H.t (.exprsMore [x]) _ _ ⟨hx,trivial⟩)
 case types=>exact OkS.sub (H.t .typ n g trivial) (fun x m hx=>H.t (.typesMore [x]) _ _ ⟨hx,trivial⟩)
 case expr=>exact H.t (.binary 1) n g (C' 1)
 case binary=>exact OkS.sub (H.t .unary n g trivial) (fun x m hx=>H.t (.binMore _ n x) _ _ ⟨hf,hx⟩)
 case primary=>exact OkS.sub (H.t .operand n g trivial) (fun x m hx=>H.t (.primMore n x) _ _ hx)
 case simple=>exact OkS.sub (H.t .exprs n g trivial) (fun x m hx=>H.t (.rest n x) _ _ hx)
 case stmts=>exact H.t (.stmtsMore []) n false trivial
 case typ =>
  simp only [DF,tI]
  repeat' (first|exact OkS.bad|refine OkS.ite (fun hc=>?_) (fun hd=>?_)|refine OkS.want (fun m=>?_)|exact mZ1 H (ZM Ct hc Ct) (.inl (B7 hc))|exact mZ1 H (ZM Ct hc Ct) (.inr (nZ1 n))|refine OkS.sub (H.t _ _ _ (by first|exact trivial|rfl)) (fun a m ha=>?_)|exact H.t _ _ _ trivial|exact OkS.ok ⟨Db,Dt,trivial⟩|exact OkS.ok ⟨Db,Dt,Dt,trivial⟩)
 case one o=>cases o <;> exact sZ1
 all_goals exact sZ1
theorem kS (E:Env):∀ k,zJ E (spec E k)
 | 0=>⟨fun _ _ _=>⟨fun _ _ h=>Do,fun _ _ h=>Do,fun _ _ h=>Do⟩,fun _ _ _ _=>fun _ _ h=>Do,fun _ _ _ _ _ _ _ _=>fun _ _ h=>Do⟩
 | k+1=>zX (kS E k)
end
section
mutual
def cnt:Tr->Nat
 | .mk _ _ _ _ ks=>1+EB ks
def EB:List Tr->Nat
 | []=>0
 | t::ts=>cnt t+EB ts
end
theorem aI:∀ (a:List Tr) (t:Tr),EB (a++[t])=EB a+cnt t
 | [],t=>by simp [EB]
 | x::a,t=>by simp only [Ao,EB,aI a t];omega
theorem nP (k:UInt8) (ks:List Tr) (n:Nat):cnt (xC k ks n)=1+EB ks:=by
 cases ks <;> rfl
theorem vF (k:UInt8) (n:Nat):cnt (vA k n)=1:=rfl
theorem YR:∀ t:Tr,1<=cnt t
 | .mk _ _ _ _ ks=>by unfold cnt;omega
theorem DS:∀ {ks:List Tr}{x:Tr},x∈ks->cnt x<=EB ks
 | y::ys,x,h=>by
  rcases List.mem_cons.1 h with rfl|h
  ·simp only [EB];omega
  ·have:=DS h;simp only [EB];omega
theorem LI {s x:Tr} (h:x∈s.kids):cnt x+1<=cnt s:=by
 obtain⟨k,w,f,t,ks⟩:=s;have h2:x∈ks:=h;have:=DS h2
 show cnt x+1<=1+EB ks
 omega
def gF:F->Nat
 | .typ|.typeName|.row _|.expr|.binary _|.unary|.operand|.primary|.params|.tparams|.elements|.block|.group|.members _ _|.clauses _ _=>1
 | .names|.union|.exprs|.types|.simple|.cased _|.declared|.started|.returned|.branch=>2
 | .one .expr|.one .typ=>1
 | .one .importSpec|.one .constSpec|.one .typeSpec|.one .valueSpec|.file=>5
 | .namesMore a|.exprsMore a|.typesMore a|.stmtsMore a|.clausesMore _ _ a=>EB a+21
 | .unionMore a=>EB a+2
 | .stmts=>21
 | .binMore _ _ x|.primMore _ x|.dot _ x|.call _ x|.index _ x|.rest _ x|.overall _ _ x=>cnt x+20
 | .indexMore _ x a=>cnt x+EB a+20
 | .slice _ x lo=>cnt x+cnt lo+20
 | .fileImports a b=>cnt a+EB b+23
 | .fileDecls a b c=>cnt a+cnt b+EB c+22
 | _=>3
def OkC (n G:Nat) (r:R Tr):Prop:=∀ a m,r=.ok a m->cnt a+20*n+20<=20*m+G
def OkN (n G:Nat) (r:R (List Tr × Int)):Prop:=∀ a m,r=.ok a m->EB a.1+20*n<=20*m+G
theorem OkC.bad {n G k:Nat}:OkC n G (.bad k):=fun _ _ h=>Do
theorem OkC.ok {n G m:Nat}{a:Tr} (h:cnt a+20*n+20<=20*m+G):OkC n G (.ok a m):=fun _ _ e=>Iv
theorem OkC.ite {n G:Nat}{c:Prop} [Decidable c] {a b:R Tr} (h1:c->OkC n G a) (h2:¬ c->OkC n G b):OkC n G (if c then a else b):=by
 exact zb4
theorem OkC.up {n G n' G':Nat}{r:R Tr} (h:OkC n' G' r) (k:20*n+G'<=20*n'+G):OkC n G r:=fun a m e=>by have:=h a m e;omega
theorem OkC.sub {n G n' G':Nat}{r:R Tr}{f:Tr->Nat->R Tr} (h:OkC n' G' r) (hf:∀ a m,cnt a+20*n'+20<=20*m+G'->OkC n G (f a m)):OkC n G (r.andThen f):=by
 exact zc9
theorem OkC.subL {n G n' G':Nat}{r:R (List Tr × Int)}{f:List Tr × Int->Nat->R Tr} (h:OkN n' G' r) (hf:∀ a m,EB a.1+20*n'<=20*m+G'->OkC n G (f a m)):OkC n G (r.andThen f):=by
 exact zc9
theorem OkC.want {E:Env}{w:List UInt8}{n G n':Nat}{f:Unit->Nat->R Tr} (hf:∀ m,m=n'+1->OkC n G (f () m)):OkC n G ((want E w n').andThen f):=by
 unfold Go.Proofs.YtjdllofmhglmiaaGreatDoor.want;split
 ·exact hf _ rfl
 ·exact OkC.bad
theorem OkN.want {E:Env}{w:List UInt8}{n G n':Nat}{f:Unit->Nat->R (List Tr × Int)} (hf:∀ m,m=n'+1->OkN n G (f () m)):OkN n G ((want E w n').andThen f):=by
 exact zdc
theorem qO {k:UInt8}{ok:Bool}{n:Nat}:OkC n 1 (leaf k ok n):=by
 unfold leaf;exact OkC.ite (fun _=>OkC.ok (by simp only [cnt,EB];omega)) (fun _=>OkC.bad)
theorem eO {E:Env}{n:Nat}:OkC n 1 (LC E n):=qO
theorem FO {E:Env}{n:Nat}:OkC n 1 (TH E n):=qO
theorem PX {E:Env}{n:Nat}:OkC n 21 (zH E n):=by unfold zH;exact OkC.ite (fun _=>FO.up Cs) (fun _=>OkC.ok Jp)
structure COk (S:AB):Prop where
 t:∀ f n g,OkC n (gF f) (S.t f n g)
 l:∀ mark shut o acc word n g,OkN n (EB acc) (S.l mark shut o acc word n g)
variable {E:Env}{S:AB}
theorem UQ (H:COk S) (a b c:List UInt8) (o:One) (n:Nat) (g:Bool):OkN (n+1) 0 (rows E S a b c o n g):=by
 unfold rows;refine OkN.want fun m hm=>?_
 subst hm;exact H.l _ _ _ _ _ _ _
theorem nQ {s:Tr}{n:Nat}:OkC n (cnt s+20) (only s n):=by
 unfold only;refine OkC.ite (fun _=>?_) (fun _=>OkC.bad);split
 ·rename_i x r hx;have:=LI (s:=s) (x:=x) Ej;exact OkC.ok Cs
 ·exact OkC.bad
theorem jV (o:One):gF (.one o)<=5:=by cases o <;> exact Nat.le_of_ble_eq_true rfl
theorem qX (H:COk S) (n:Nat) (g:Bool):OkC n 1 (CE E S n g):=by
 have h5:=jV (EN E n);unfold CE;refine OkC.ite (fun _=>OkC.subL (UQ H _ _ _ _ _ _) (fun a m ha=>OkC.want fun m2 hm=>OkC.ok ?_)) (fun _=>OkC.sub (H.t _ _ _) (fun a m ha=>OkC.ok ?_))
 ·simp only [cnt];omega
 ·simp only [cnt,EB];omega
theorem dY (H:COk S) {fr:Nat}{left:Tr} (n:Nat) (g:Bool):OkC n (cnt left+20) (WF E S fr left n g):=by
 unfold WF;refine OkC.ite (fun _=>OkC.sub (H.t .exprs _ _) (fun a m ha=>OkC.ok ?_)) (fun _=>?_)
 ·simp only [gF] at ha;simp only [cnt,EB];omega
 split
 ·rename_i x hx;have hs:=LI (s:=left) (x:=x) Ej;refine OkC.ite (fun _=>OkC.ok ?_) (fun _=>OkC.ite (fun _=>OkC.sub (H.t .expr _ _) (fun a m ha=>OkC.ok ?_)) (fun _=>OkC.ok ?_))
  ·simp only [cnt,EB];omega
  ·simp only [gF] at ha;simp only [cnt,EB];omega
  ·simp only [cnt,EB];omega
 ·exact OkC.bad
theorem BW {s a b:Tr} (he:asked E s=some (a,b)):cnt a+cnt b+1<=cnt s+1:=by
 unfold asked at he;split at he
 ·rename_i x hk hx;have hs:=LI (s:=s) (x:=x) Ej;split at he
  ·rename_i y h33 hy;cases he;have:=LI (s:=x) (x:=b) G4;simp only [cnt,EB];omega
  ·cases he
 ·rename_i l r hk hx;have hlr:cnt l+cnt r+1<=cnt s:=by
   obtain⟨k,w,f,t,ks⟩:=s;have hx':ks=[l,r]:=hx;subst hx';simp only [cnt,EB];omega
  split at he
  ·split at he
   ·rename_i c d hc hd;have h1:=LI (s:=l) (x:=c) (by rw [hc];simp);have h2:=LI (s:=r) (x:=d) Hy;split at he
    ·split at he
     ·rename_i y hy;cases he;have h3:=LI (s:=d) (x:=b) G4;omega
     ·cases he
    ·cases he
   ·cases he
  ·cases he
 ·cases he
theorem GF (H:COk S) {fr:Nat}{a t:Tr}{s:Option Tr} (n:Nat) (g:Bool) (ht:cnt t=1):OkC n (cnt a+(match s with|some s=>cnt s|none=>0)+10) (qB E S fr a s t n g):=by
 unfold qB;cases s with
 | none=>exact OkC.sub (H.t (.clauses 62 1) _ _) (fun c m hc=>OkC.ok Fj)
 | some s =>
  show OkC n _ (match asked E s with|some (name,x)=>_|none=>_)
  cases he:asked E s with
  | none=>exact OkC.sub nQ (fun t2 m ht2=>OkC.sub (H.t (.clauses 62 1) _ _) (fun c m2 hc=>OkC.ok Fj))
  | some p =>
   obtain⟨x,y⟩:=p;have:=BW he;exact OkC.sub (H.t (.clauses 62 2) _ _) (fun c m hc=>OkC.ok Fj)
theorem EH (H:COk S) {fr:Nat}{a:Tr} (n:Nat) (g:Bool):OkC n (cnt a+10) (nB E S fr a n g):=by
 unfold nB;refine OkC.ite (fun _=>(GF H (s:=none) n g rfl).up G6) (fun _=>OkC.sub (H.t .simple _ _) (fun s m hs=>?_));simp only [gF] at hs;exact (GF H (s:=some s) m g rfl).up G6
theorem CQ (H:COk S) (n:Nat) (g:Bool):OkC n 3 (qC E S n g):=by
 unfold qC;refine OkC.ite (fun _=>(GF H (s:=none) (n+1) g rfl).up Jp) (fun _=>OkC.ite (fun _=>(EH H (n+2) g).up Jp) (fun _=>OkC.sub (H.t .simple _ _) (fun s m hs=>OkC.ite (fun _=>(EH H (m+1) g).up (by simp only [gF] at hs;omega)) (fun _=>(GF H (s:=some s) m g rfl).up (by simp only [gF] at hs;simp only [vF];omega)))))
theorem PW (H:COk S) (mark shut:List UInt8) (o:One) (acc:List Tr) (word:Int) (n:Nat) (g:Bool):OkN n (EB acc) (LF E S mark shut o acc word n g):=by
 unfold LF;by_cases hc:E.is n shut=true
 ·rw [Bb hc];exact fun a m e=>by cases e;exact Nat.le_of_eq G6
 rw [Bc hc];have key:∀ r:R (Tr × Int),(∀ p m,r=.ok p m->cnt p.1+20*n<=20*m)->OkN n (EB acc) (r.andThen fun p n1=>if E.is n1 shut then S.l mark shut o (acc++[p.1]) p.2 n1 g else (want E mark n1).andThen fun _ n2=>S.l mark shut o (acc++[p.1]) p.2 n2 g):=by
  intro r hr;cases r with
  | ok p m =>
   have hp:=hr p m rfl;have hup:∀ m',m<=m'->OkN n (EB acc) (S.l mark shut o (acc++[p.1]) p.2 m' g):=by
    intro m' hm' a m2 e;have:=H.l mark shut o (acc++[p.1]) p.2 m' g a m2 e;rw [aI] at this;omega
   show OkN n (EB acc) (if E.is m shut then _ else _)
   by_cases hs:E.is m shut=true
   ·rw [Bb hs];exact hup m (C' _)
   ·rw [Bc hs];exact OkN.want fun m' hm'=>hup m' Cs
  | bad k=>exact fun _ _ h=>Do
  | out=>exact fun _ _ h=>Do
 refine key _ ?_;have sub:∀ (G:Nat) (r:R Tr) (f:Tr->Nat->R (Tr × Int)),OkC n G r->G<=5->(∀ a m p m',f a m=.ok p m'->p.1=a/\m<=m')->∀ p m,r.andThen f=.ok p m->cnt p.1+20*n<=20*m:=by
  intro G r f hr hG hf p m e;cases r with
  | ok a m1=>have:=hr a m1 rfl;obtain⟨h1,h2⟩:=hf a m1 p m e;rw [h1];omega
  | bad k=>cases e
  | out=>cases e
 have plain:∀ o':One,∀ p m,((S.t (.one o') n g).andThen fun x n1=>(.ok (x,word) n1:R (Tr × Int)))=.ok p m->cnt p.1+20*n<=20*m :=
  fun o'=>sub _ _ _ (H.t (.one o') n g) (jV o') (fun a m p m' e=>by cases e;exact⟨rfl,C' _⟩)
 cases o with
 | call =>
  intro p m e;have e':(if 0<=word then (R.bad n:R (Tr × Int)) else (S.t .expr n g).andThen fun x n1=>if E.is n1 [46,46,46] then .ok (x,(n1:Int)) (n1+1) else .ok (x,word) n1)=.ok p m:=e;split at e'
  ·cases e'
  ·refine sub _ _ _ (H.t .expr n g) Ct (fun a m p m' e=>?_) p m e';split at e
   ·cases e;exact⟨rfl,Cs⟩
   ·cases e;exact⟨rfl,C' _⟩
 | expr=>exact plain .expr
 | param=>exact plain .param
 | tparam=>exact plain .tparam
 | typ=>exact plain .typ
 | field=>exact plain .field
 | elem=>exact plain .elem
 | element=>exact plain .element
 | importSpec=>exact plain .importSpec
 | constSpec=>exact plain .constSpec
 | typeSpec=>exact plain .typeSpec
 | valueSpec=>exact plain .valueSpec
theorem vY (H:COk S):COk (step E S):=by
 refine⟨fun f n g=>?_,fun mark shut o acc word n g=>PW H mark shut o acc word n g⟩
 show OkC n (gF f) (DF E S f n g)
 cases f with
 | group=>exact qX H n g
 | one o =>
  cases o with
  | expr=>exact H.t .expr n g
  | typ=>exact H.t .typ n g
  | call=>exact OkC.bad
  | _ =>
   have haf:=PF E [60,45] (n+1);have haf2:=PF E [44] n;simp only [DF,EF,lB,eC,uB,LB,IB,rC,fnB,NB,XD,NE,XC,RD,OD,XB,jB,tI,NJ,CB,nC,WE,kG,ZB,cC,uD,FE,PC,DC,SJ,bG,sE,fC,UE,OB,QC,QE,dC,EE,ZC,lC,aD,oC,UD,dD,cD,rD,mB,XI,fG,wrapT,mC,nH,SD,kD,oA,mA,PA,zA]
   repeat' (first|exact OkC.bad|refine OkC.ite (fun _=>?_) (fun _=>?_)|refine OkC.want (fun m hm=>?_)|(refine OkC.sub eO ?_;intro a m ha)|(refine OkC.sub FO ?_;intro a m ha)|(refine OkC.sub PX ?_;intro a m ha)|(refine OkC.sub nQ ?_;intro a m ha)|(refine OkC.subL (UQ H _ _ _ _ _ _) ?_;intro a m ha)|(refine OkC.sub (H.t _ _ _) ?_;intro a m ha;simp only [gF,vF] at ha)|exact eO.up (F9)|exact FO.up (F9)|exact qO.up (F9)|refine OkC.up (H.t _ _ _) ?_|refine OkC.ok ?_)
   all_goals (try simp only [gF,cnt,EB,nP,vF,aI,Ar,Ao])
   all_goals first|omega|(unfold after at ha;split at ha <;> omega)|skip
 | exprs=>exact OkC.sub (H.t .expr n g) (fun x m hx=>OkC.up (H.t (.exprsMore [x]) m g) He)
 | types=>exact OkC.sub (H.t .typ n g) (fun x m hx=>OkC.up (H.t (.typesMore [x]) m g) He)
 | expr=>exact H.t (.binary 1) n g
 | binary least=>exact OkC.sub (H.t .unary n g) (fun x m hx=>OkC.up (H.t (.binMore least n x) m g) Fy)
 | primary=>exact OkC.sub (H.t .operand n g) (fun x m hx=>OkC.up (H.t (.primMore n x) m g) Fy)
 | stmts=>exact (H.t (.stmtsMore []) n false)
 | simple=>exact OkC.sub (H.t .exprs n g) (fun x m hx=>OkC.up (H.t (.rest n x) m g) Fy)
 | rest fr left=>exact dY H n g
 | switches=>exact CQ H n g
 | cased sort =>
  show OkC n 2 (PE S sort n g)
  unfold PE;exact OkC.ite (fun _=>H.t .exprs n g) (fun _=>OkC.ite (fun _=>H.t .types n g) (fun _=>H.t .simple n g))
 | _ =>
   have haf:=PF E [60,45] (n+1);have haf2:=PF E [44] n;simp only [DF,EF,lB,eC,uB,LB,IB,rC,fnB,NB,XD,NE,XC,RD,OD,XB,jB,tI,NJ,CB,nC,WE,kG,ZB,cC,uD,FE,PC,DC,SJ,bG,sE,fC,UE,OB,QC,QE,dC,EE,ZC,lC,aD,oC,UD,dD,cD,rD,mB,XI,fG,wrapT,mC,nH,SD,kD,oA,mA,PA,zA]
   repeat' (first|exact OkC.bad|refine OkC.ite (fun _=>?_) (fun _=>?_)|refine OkC.want (fun m hm=>?_)|(refine OkC.sub eO ?_;intro a m ha)|(refine OkC.sub FO ?_;intro a m ha)|(refine OkC.sub PX ?_;intro a m ha)|(refine OkC.sub nQ ?_;intro a m ha)|(refine OkC.subL (UQ H _ _ _ _ _ _) ?_;intro a m ha)|(refine OkC.sub (H.t _ _ _) ?_;intro a m ha;simp only [gF,vF] at ha)|exact eO.up (F9)|exact FO.up (F9)|exact qO.up (F9)|refine OkC.up (H.t _ _ _) ?_|refine OkC.ok ?_)
   all_goals (try simp only [gF,cnt,EB,nP,vF,aI,Ar,Ao])
   all_goals first|omega|(unfold after at ha;split at ha <;> omega)|skip
theorem NU (E:Env):∀ k,COk (spec E k)
 | 0=>⟨fun _ _ _=>fun _ _ h=>Do,fun _ _ _ _ _ _ _=>fun _ _ h=>Do⟩
 | k+1=>vY (NU E k)
end
section
variable {E:Env}
def IC (goal:UInt8):F:=if goal=1 then .typ else if goal=2 then .expr else if goal=3 then .stmts else .file
def DK (E:Env) (goal:UInt8) (t:Tr) (n:Nat):R Tr :=
 if goal<=2/\n+1=E.l.length then (if E.ended (after E [59] n) then .ok t (after E [59] n) else .bad (after E [59] n))
 else if E.ended n then .ok t n else .bad n
def OC (E:Env):Nat:=20*E.l.length+20
def FD (E:Env) (goal:UInt8):R Tr:=((spec E (OC E)).t (IC goal) 0 false).andThen (DK E goal)
theorem LL (goal:UInt8):(spec E (OC E)).t (IC goal) 0 false≠.out:=by
 refine ends E (IC goal) ?_ false;unfold IC;split
 ·exact DA rfl (Nat.zero_le _)
 ·split
  ·exact DA rfl (Nat.zero_le _)
  ·split <;> exact DA rfl (Nat.zero_le _)
theorem BS {goal:UInt8}{t:Tr}{n:Nat}:DK E goal t n≠.out:=by
 unfold DK
 repeat' split
 all_goals (intro h;cases h)
theorem kQ {goal:UInt8}:FD E goal≠.out:=by
 unfold FD;have:=LL (E:=E) goal;cases hr:(spec E (OC E)).t (IC goal) 0 false with
 | ok t n=>exact BS
 | bad k=>intro h;cases h
 | out=>exact absurd hr this
theorem lQ {n:Nat} (h:E.ended n=true):n=E.l.length:=B7 h
theorem WI {goal:UInt8}{t:Tr}{m:Nat} (h:FD E goal=.ok t m):m=E.l.length/\∃ n,n<=E.l.length/\(spec E (OC E)).t (IC goal) 0 false=.ok t n/\(goal<=2∨n=E.l.length):=by
 unfold FD at h;cases hr:(spec E (OC E)).t (IC goal) 0 false with
 | out=>exact absurd hr (LL goal)
 | bad k=>rw [hr] at h;cases h
 | ok u n =>
  rw [hr] at h;have h2:DK E goal u n=.ok t m:=h;unfold DK at h2;split at h2
  ·rename_i hc;split at h2
   ·rename_i he;cases h2;have:=lQ he;exact⟨this,n,Cs,rfl,.inl hc.1⟩
   ·cases h2
  ·split at h2
   ·rename_i he;cases h2;have hE:=lQ he;exact⟨hE,_,Cs,rfl,.inr hE⟩
   ·cases h2
theorem VO {goal:UInt8}{t:Tr}{m:Nat} (h:FD E goal=.ok t m):Sp E t:=by
 obtain⟨_,n,hn,hs,_⟩:=WI h;refine (kS E (OC E)).t (IC goal) 0 false ?_ t n hs;unfold IC;repeat' split
 all_goals trivial
theorem VT {goal:UInt8}{t:Tr}{m:Nat} (h:FD E goal=.ok t m):cnt t<=20*E.l.length+5:=by
 obtain⟨_,n,hn,hs,_⟩:=WI h;have:=(NU E (OC E)).t (IC goal) 0 false t n hs;have hg:gF (IC goal)<=21:=by
  unfold IC;repeat' split
  all_goals exact Nat.le_of_ble_eq_true rfl
 omega
end
