import Derived.Test.YtcjmpafkcmlhbaaGreatDoorQBP
namespace Go.Proofs.YtcjmpafkcmlhbaaGreatDoor
open _root_.Go.Lib(hid)
set_option linter.all false
set_option maxHeartbeats 40000000
set_option maxRecDepth 100000
namespace Shp
open Go.RowKit
open Grd (Pt)
variable {w w':World}{l:List Pt}{K:Nat→List Nat}{U:Nat→Option Nat}{T nb:Nat→Nat}
def qS (l:List Pt) (K:Nat→List Nat) (k:Nat):Bool:=(kd l k==some 62||kd l k==some 64)&&kd l (k0 K k)==some 0
def b8 (l:List Pt) (K:Nat→List Nat) (U:Nat→Option Nat) (T:Nat→Nat) (i:Nat):Bool :=
 (kd l i==some 62||kd l i==some 64)&&(match U i with
  | none=>false
  | some j=>kd l j==some 25&&(kd l (k0 K i)==some 0&&((K j).take (T i)).any (qS l K)))
theorem kX (hG:Gr l K U T nb w) (hW:Wf l K U T) (i:Nat) (hi:i < l.length):Calls Tryz.prog 47 #[.pointer (some ⟨nb i,0,none⟩)] w fun e w'=>e=.returned (.bool (b8 l K U T i))∧Below w.heap.size w w':=by
 obtain⟨p,hp⟩:=CC hi;obtain⟨R,hR⟩:∃ R,R=b8 l K U T i:=⟨_,rfl⟩;rw [← hR];unfold b8 at hR;rw [zB hp,yA,yA] at hR;have hI:=is2 (hG.kv hp) 62 64 (xi:=62) (yi:=64) rfl rfl 5;have HI2:=hid (fun w2 (hb2:Below w.heap.size w w2)=>is1 ((hG.below hb2).kvU hW hi) 25 (xi:=25) rfl 5);rw [oW] at hI;have HR:=hid hR;have HG:=hid hG;have HP0:=hid hp;clear hR hG;go_enter Tryz.func47,Tryz.ntmps47;cases hk:(p.k==62||p.k==64) with
 | false =>
  have hr:false=R:=by rw [HR.out,hk];rfl
  subst hr;rw [hk] at hI;clear hk HR hp;go_wp2_with fail;refine hI.mono ?_;rintro e w2 ⟨rfl,hbl⟩;clear hI;go_wp2_with fail;go_ret;exact⟨rfl,hbl⟩
 | true =>
  obtain⟨x0,q0,h0,hq0,hl0,hx0⟩:=hW.arg (m:=0) hp (by
   simp only [Bool.or_eq_true,beq_iff_eq] at hk;rcases hk with hk|hk <;> rw [hk] <;> decide)
  rw [hk] at hI;rw [hk,Bool.true_and,show k0 K i=x0 from hx0,zB hq0,yA] at HR;have HP:=hid (And.intro h0 hq0);clear hk hp h0 hq0 hx0;cases hU:U i with
  | none =>
   unfold uk at HI2;rw [hU] at HR HI2;have hr:false=R:=HR.out.symm;subst hr;have HU:=hid hU;rw [show isB ((none:Option Nat).bind (kd l)) [25]=false from rfl] at HI2;clear HR hU;go_wp2_with fail;refine hI.mono ?_;rintro e w2 ⟨rfl,hbl⟩;have c4:=(HG.out.below hbl).upc HP0.out;rw [HU.out] at c4;simp only [RF] at c4;have hI2:=HI2.out w2 hbl;clear hI;go_wp2_with fail;refine hI2.mono ?_;rintro e w3 ⟨rfl,hb3⟩;have hbl:=dA hbl hb3;clear hI2 hb3;go_wp2_with fail;go_ret;exact⟨rfl,hbl⟩
  | some j =>
   obtain⟨hji,hKT⟩:=hW.up i j hU;obtain⟨q,hq⟩:=CC (show j < l.length by omega);unfold uk at HI2;rw [hU] at HR HI2;rw [show (some j).bind (kd l)=some q.k from zB hq,qE] at HI2;simp only [zB hq,yA] at HR;have HU:=hid (And.intro hU (And.intro hq hKT));clear hU hq hKT;go_wp2_with fail;refine hI.mono ?_;rintro e w2 ⟨rfl,hbl⟩;have c4:=(HG.out.below hbl).upc HP0.out;rw [HU.out.1] at c4;simp only [RF] at c4;have hI2:=HI2.out w2 hbl;simp only [RF] at hI2;clear hI HI2;cases hk3:(q.k==25) with
   | false =>
    rw [hk3] at HR hI2;have hr:false=R:=HR.out.symm;subst hr;clear HR hk3;go_wp2_with fail;refine hI2.mono ?_;rintro e w3 ⟨rfl,hb3⟩;have hbl:=dA hbl hb3;clear hI2 hb3;go_wp2_with fail;go_ret;exact⟨rfl,hbl⟩
   | true =>
    rw [hk3,Bool.true_and] at HR;rw [hk3] at hI2;clear hk3;go_wp2_with fail;refine hI2.mono ?_;rintro e w3 ⟨rfl,hb3⟩;have hbl:=dA hbl hb3;have c4:=aA hb3 c4;obtain⟨b,x,cap,c6,hcap,hx,hb,c7⟩:=(HG.out.below hbl).kid HP0.out HP.out.1;have hI3:=is1 ((HG.out.below hbl).kv HP.out.2) 0 (xi:=0) rfl 5;rw [qE] at hI3;clear hI2 hb3;cases e4:(q0.k==0) with
    | false =>
     rw [e4] at HR hI3;have hr:false=R:=HR.out.symm;subst hr;clear HR e4;go_wp2_with fail;refine hI3.mono ?_;rintro e w4 ⟨rfl,hb4⟩;have hbl:=dA hbl hb4;clear hI3 hb4;go_wp2_with fail;go_ret;exact⟨rfl,hbl⟩
    | true =>
     rw [e4,Bool.true_and] at HR;rw [e4] at hI3;clear e4;go_upto_region 3 with fail;refine hI3.mono ?_;rintro e w4 ⟨rfl,hb4⟩;have hbl:=dA hbl hb4;have c4:=aA hb4 c4;have c5:=(HG.out.below hbl).nthc HP0.out;obtain⟨kbj,capj,d0,_,_,_,_,_,_,d6,dcap,drow⟩:=(HG.out.below hbl).cells HU.out.2.1;have hKl:=(List.getElem?_eq_some_iff.1 HU.out.2.2).1;have hfew:=hW.few j;have hlen:=hW.len;have HDROW:=hid drow;clear hI3 hb4 c6 c7 hcap hx hb drow;obtain⟨n,hn⟩:∃ n,n=(K j).length:=⟨_,rfl⟩;rw [← hn] at d6 dcap hKl hfew;obtain⟨tn,htn⟩:∃ tn,tn=T i:=⟨_,rfl⟩;rw [← htn] at c5 hKl HR;have HN:=hid (And.intro hn (And.intro htn hKl));have n1:tn≤1000000000:=by omega
     have z2:(0:Int)≤(tn:Int):=by omega
     have z5:(tn:Int)≤(capj:Int):=by omega
     clear hn htn hKl hfew hlen dcap;go_upto_region 3 with fail
     go_cut [40,41,42] from 29 to 42 (fun v40 v41 v42 wx=>v41=.int .i64 (tn:Int)∧v42=.int .i64 0∧v40=.slice kbj tn capj∧∃ q,wx=w4.drewN q)
     case first =>
      go_wp2_with fail;go_big_quiet (fail);go_wp2_with fail
      go_meet
      exact⟨rfl,rfl,rfl,_,rfl⟩
     case rest =>
      obtain⟨rfl,rfl,rfl,nq,hw⟩:=hcut;replace hw:=hw.symm;subst hw;replace hbl:=Go.below_drewN hbl nq;have hb0:=hbl;clear z2 z5 c4 c5 d6 hbl d0;go_wp2_with fail
      go_loopg [4,42] tn (fun q v4 v42 wr=>∃ (a:Nat),v42=.int .i64 (a:Int)∧a+q=tn∧(((K j).take tn).drop a).any (qS l K)=R∧Below (w4.drewN nq).heap.size (w4.drewN nq) wr)
      case atStart=>exact⟨0,rfl,by omega,by rw [List.drop_zero,HR.out],Below.refl _ _⟩
      case round =>
       obtain⟨a,rfl,hq2,hv2,hb2⟩:=hrel;have hbl:=dA hb0 hb2;by_cases ha:a < tn
       ·obtain⟨k,qk,hk,hqk,_⟩:=hW.kidAt (i:=j) (m:=a) (by have:=HN.out.1;have:=HN.out.2.2;omega);obtain⟨b,rfl,hbs,c7⟩:=HDROW.out a k hk;have c7:=mD hb2 (p:=⟨b,a,none⟩) hbs c7;have hkt:((K j).take tn)[a]?=some k:=by rw [List.getElem?_take,if_pos ha];exact hk
        rw [lF hkt,List.any_cons] at hv2;have hd:qS l K k=((qk.k==62||qk.k==64)&&kd l (k0 K k)==some 0):=by unfold qS;rw [zB hqk];rfl
        rw [hd] at hv2;have a0:(0:Int)≤(a:Int):=by omega
        have a1:(a:Int) < (tn:Int):=by omega
        have a2:decide (a < tn)=true:=decide_eq_true ha;have hI4:=is2 ((HG.out.below hbl).kv hqk) 62 64 (xi:=62) (yi:=64) rfl rfl 5;rw [oW] at hI4;have HQ2:=hid hq2;have HK:=hid (And.intro hk hqk);clear hk hq2 hkt hd;cases e5:(qk.k==62||qk.k==64) with
        | false =>
         rw [e5] at hv2 hI4;rw [Bool.false_and,Bool.false_or] at hv2;have HV2:=hid hv2;clear e5 hv2 hqk;go_wp2_with fail;refine hI4.mono ?_;rintro e w9 ⟨rfl,hb9⟩;have hb3:=dA hb2 hb9;clear hI4 hb9;go_wp2_with fail;go_roundg (gk - 1)
         case measure=>have:=HQ2.out;omega
         case rel=>exact⟨a+1,by simp,by have:=HQ2.out;omega,HV2.out,hb3⟩
        | true =>
         obtain⟨y0,r0,g0,gq0,gl0,gx0⟩:=hW.arg (m:=0) hqk (by
          simp only [Bool.or_eq_true,beq_iff_eq] at e5;rcases e5 with e5|e5 <;> rw [e5] <;> decide)
         rw [e5] at hv2 hI4;rw [Bool.true_and,show k0 K k=y0 from gx0,zB gq0,yA] at hv2;have HV2:=hid hv2;have HY:=hid (And.intro g0 gq0);clear e5 hv2 hqk g0 gq0 gx0;go_wp2_with fail;refine hI4.mono ?_;rintro e w9 ⟨rfl,hb9⟩;have hb3:=dA hb2 hb9;have hbl3:=dA hb0 hb3;obtain⟨b5,x5,cap5,c6,hcap,hx,hb,c8⟩:=(HG.out.below hbl3).kid HK.out.2 HY.out.1;have hI5:=is1 ((HG.out.below hbl3).kv HY.out.2) 0 (xi:=0) rfl 5;rw [qE] at hI5;clear hI4 hb9;cases e6:(r0.k==0) with
         | true =>
          have hr:true=R:=by rw [← HV2.out,e6];rfl
          subst hr;rw [e6] at hI5;clear HV2 e6 HR;go_wp2_with fail;refine hI5.mono ?_;rintro e w10 ⟨rfl,hb10⟩;have hbl4:=dA hbl3 hb10;clear hI5 hb10;go_wp2_with fail;go_ret;exact⟨rfl,hbl4⟩
         | false =>
          rw [e6] at hI5 HV2;rw [Bool.false_or] at HV2;clear e6;go_wp2_with fail;refine hI5.mono ?_;rintro e w10 ⟨rfl,hb10⟩;have hb4:=dA hb3 hb10;clear hI5 hb10;go_wp2_with fail;go_roundg (gk - 1)
          case measure=>have:=HQ2.out;omega
          case rel=>exact⟨a+1,by simp,by have:=HQ2.out;omega,HV2.out,hb4⟩
       ·have hd:((K j).take tn).drop a=[]:=List.drop_eq_nil_of_le (by rw [List.length_take];omega);rw [hd] at hv2;have hr:false=R:=hv2;subst hr;have a2:decide (a < tn)=false:=decide_eq_false ha;clear hd hv2 hq2 HR ha;go_wp2_with fail;go_ret;exact⟨rfl,hbl⟩
end Shp
namespace Shp
open Go.RowKit
open Grd (Pt)
variable {w w':World}{l:List Pt}{K:Nat→List Nat}{U:Nat→Option Nat}{T nb:Nat→Nat}
def b9 (l:List Pt) (K:Nat→List Nat) (i:Nat):Bool :=
 kd l i==some 64&&(bif kd l (k0 K i)==some 0||kd l (k0 K i)==some 51 then false
  else bif kd l (k0 K i)==some 50 then !MU l K (k0 K (k0 K i))
  else bif kd l (k0 K i)==some 53 then (wd l (k0 K i) != [61]&&wd l (k0 K i) != [58,61]) ||
   (((K (k0 K (k0 K i))).length != 1&&(K (k0 K (k0 K i))).length != 2)||((K (k1 K (k0 K i))).length != 1||!MU l K (k0 K (k1 K (k0 K i)))))
  else true)
theorem vS (x:UInt8) (n:Nat) (h:n < 256):(((x.toNat:Nat):Int)==(n:Int))=(x==UInt8.ofNat n):=by
 have:=oM x n h;rw [bne,bne] at this;exact Bool.not_inj this
theorem CW (hG:Gr l K U T nb w) (hW:Wf l K U T) (i:Nat) (hi:i < l.length):Calls Tryz.prog 48 #[.pointer (some ⟨nb i,0,none⟩)] w fun e w'=>e=.returned (.bool (b9 l K i))∧Below w.heap.size w w':=by
 obtain⟨p,hp⟩:=CC hi;obtain⟨R,hR⟩:∃ R,R=b9 l K i:=⟨_,rfl⟩;rw [← hR];unfold b9 at hR;rw [zB hp,yA] at hR;have hI:=is1 (hG.kv hp) 64 (xi:=64) rfl 5;rw [qE] at hI;have HR:=hid hR;have HG:=hid hG;have HP0:=hid hp;clear hR hG;go_enter Tryz.func48,Tryz.ntmps48;cases hk:(p.k==64) with
 | false =>
  have hr:false=R:=by rw [HR.out,hk];rfl
  subst hr;rw [hk] at hI;clear hk HR hp;go_wp2_with fail;refine hI.mono ?_;rintro e w2 ⟨rfl,hbl⟩;clear hI;go_wp2_with fail;go_ret;exact⟨rfl,hbl⟩
 | true =>
  obtain⟨s,q,h0,hq,hls,hs⟩:=hW.arg (m:=0) hp (by rw [beq_iff_eq.1 hk];decide);rw [hk] at hI;rw [hk,Bool.true_and,show k0 K i=s from hs,zB hq,QJ hq] at HR;simp only [yA] at HR;have HP:=hid (And.intro h0 (And.intro hq hls));clear hk hp h0 hq hs;go_wp2_with fail;refine hI.mono ?_;rintro e w2 ⟨rfl,hbl⟩;obtain⟨b,x,cap,c6,hcap,hx,hb,c7⟩:=(HG.out.below hbl).kid HP0.out HP.out.1;have d0:=(HG.out.below hbl).kindc HP.out.2.1;have d3:=(HG.out.below hbl).wordc HP.out.2.1;clear hI;have g0:=vS q.k 0 (by decide);have g1:=vS q.k 51 (by decide);have g2:=vS q.k 50 (by decide);have g3:=vS q.k 53 (by decide);rw [show UInt8.ofNat 0=(0:UInt8) from rfl,show ((0:Nat):Int)=0 from rfl] at g0;rw [show UInt8.ofNat 51=(51:UInt8) from rfl,show ((51:Nat):Int)=51 from rfl] at g1;rw [show UInt8.ofNat 50=(50:UInt8) from rfl,show ((50:Nat):Int)=50 from rfl] at g2;rw [show UInt8.ofNat 53=(53:UInt8) from rfl,show ((53:Nat):Int)=53 from rfl] at g3;cases e0:(q.k==0) with
  | true =>
   rw [e0] at g0 HR;have hr:false=R:=by rw [HR.out];rfl
   subst hr;have f0:(q.k.toNat:Int)=0:=by rw [beq_iff_eq.1 e0];rfl
   rw [f0] at d0;clear HR e0 g0 g1 g2 g3;go_wp2_with fail;go_ret;exact⟨rfl,hbl⟩
  | false =>
   cases e1:(q.k==51) with
   | true =>
    rw [e0,e1] at HR;have hr:false=R:=by rw [HR.out];rfl
    subst hr;have f0:(q.k.toNat:Int)=51:=by rw [beq_iff_eq.1 e1];rfl
    rw [f0] at d0;clear HR e0 e1 g0 g1 g2 g3;go_wp2_with fail;go_ret;exact⟨rfl,hbl⟩
   | false =>
    rw [e0,e1,Bool.or_false,cond_false] at HR;cases e2:(q.k==50) with
    | true =>
     rw [e2,cond_true] at HR;have hk50:=beq_iff_eq.1 e2;obtain⟨x0,q0,h0,hq0,hl0,hx0⟩:=hW.arg (m:=0) HP.out.2.1 (by rw [hk50];decide);rw [show k0 K s=x0 from hx0] at HR;have f0:(q.k.toNat:Int)=50:=by rw [hk50];rfl
     rw [f0] at d0;obtain⟨b2,y,cap2,e6,ecap,ex,eb,e7⟩:=(HG.out.below hbl).kid HP.out.2.1 h0;have hV:=UJ (HG.out.below hbl) hW x0 hl0;clear e0 e1 e2 g0 g1 g2 g3 h0 hq0 hx0 hk50;go_wp2_with fail;refine hV.mono ?_;rintro e w5 ⟨rfl,hb5⟩;have hbl:=dA hbl hb5;clear hV hb5;go_wp2_with fail;go_ret;exact⟨VC (by rw [HR.out]),hbl⟩
    | false =>
     rw [e2,cond_false] at HR;cases e3:(q.k==53) with
     | false =>
      rw [e3,cond_false] at HR;have hr:true=R:=HR.out.symm;subst hr;rw [e0] at g0;rw [e1] at g1;rw [e2] at g2;rw [e3] at g3;clear HR e0 e1 e2 e3;go_wp2_with fail;go_ret;exact⟨rfl,hbl⟩
     | true =>
      rw [e3,cond_true] at HR;have hk53:=beq_iff_eq.1 e3;obtain⟨x0,q0,h0,hq0,hl0,hx0⟩:=hW.arg (m:=0) HP.out.2.1 (by rw [hk53];decide);obtain⟨x1,q1,h1,hq1,hl1,hx1⟩:=hW.arg (m:=1) HP.out.2.1 (by rw [hk53];decide);rw [show k0 K s=x0 from hx0,show k1 K s=x1 from hx1] at HR;have f0:(q.k.toNat:Int)=53:=by rw [hk53];rfl
      rw [f0] at d0;obtain⟨b2,y,cap2,e6,ecap,ex,eb,e7⟩:=(HG.out.below hbl).kid HP.out.2.1 h1;obtain⟨b3,z,cap3,e6',ecap',ex',eb',e8⟩:=(HG.out.below hbl).kid HP.out.2.1 h0;obtain⟨rfl,e9⟩:b3=b2∧z+1=y+2:=by
       rw [e6] at e6';simp only [Option.some.injEq,Value.slice.injEq,Addr.mk.injEq] at e6';omega
      obtain⟨ka,ca,a6⟩:=(HG.out.below hbl).lenc hq0;obtain⟨kb,cb,b6,bcap,brow⟩:∃ kb cb,w2.cell? ⟨nb x1,6,none⟩=some (.slice kb (K x1).length cb)∧(K x1).length≤cb∧∀ (j k:Nat),(K x1)[j]?=some k→∃ b,kb=some ⟨b,0,none⟩∧b < w2.heap.size∧w2.cell? ⟨b,j,none⟩=some (.pointer (some ⟨nb k,0,none⟩)):=by
       obtain⟨kb,cb,_,_,_,_,_,_,_,c,cc,cr⟩:=(HG.out.below hbl).cells hq1;exact⟨kb,cb,c,cc,cr⟩
      have HB:=hid brow;have HQ1:=hid (And.intro hq1 hl1);have yy:(0:Int) < (y:Int)+2:=by omega
      clear e6' ecap' ex' eb' e9 e0 e1 e2 e3 g0 g1 g2 g3 h0 hq0 hl0 hx0 h1 hq1 hx1 hl1 hk53 brow;obtain⟨A,hA⟩:∃ A,A=(K x0).length:=⟨_,rfl⟩;obtain⟨B,hB⟩:∃ B,B=(K x1).length:=⟨_,rfl⟩;rw [← hA,← hB] at HR;rw [← hA] at a6;rw [← hB] at b6 bcap;have HBL:=hid hB;clear hA hB;go_wp2_with fail;go_big_quiet (fail);replace hbl:=Go.below_drewN hbl nq;cases e4:(q.w != [61]&&q.w != [58,61]) with
      | true =>
       have hr:true=R:=by rw [HR.out,e4];rfl
       subst hr;have n1:(q.w==[61])=false:=by have h:=(Bool.and_eq_true_iff.1 e4).1;rw [bne,Bool.not_eq_true'] at h;exact h
       have n2:(q.w==[58,61])=false:=by have h:=(Bool.and_eq_true_iff.1 e4).2;rw [bne,Bool.not_eq_true'] at h;exact h
       clear HR e4;go_wp2_with fail;go_ret;exact⟨rfl,hbl⟩
      | false =>
       rw [e4,Bool.false_or] at HR;have hw2:q.w=[61]∨q.w=[58,61]:=by
        rw [Bool.and_eq_false_iff] at e4;rcases e4 with e|e
        ·exact .inl (by simpa using e)
        ·exact .inr (by simpa using e)
       clear e4;cases e5:(A != 1&&A != 2) with
       | true =>
        have hr:true=R:=by rw [HR.out,e5];rfl
        subst hr;have n1:¬ A=1:=by intro h;rw [h] at e5;exact absurd e5 (by decide)
        have n2:¬ A=2:=by intro h;rw [h] at e5;exact absurd e5 (by decide)
        clear HR e5;rcases hw2 with h|h <;> rw [h] at d3 <;> clear h <;> (go_wp2_with fail;go_ret;exact⟨rfl,hbl⟩)
       | false =>
        rw [e5,Bool.false_or] at HR;have hA2:A=1∨A=2:=by
         rw [Bool.and_eq_false_iff] at e5;rcases e5 with e|e
         ·exact .inl (by simpa using e)
         ·exact .inr (by simpa using e)
        clear e5;by_cases hB1:B=1
        ·subst hB1;have HR3:Hid (R=!MU l K (k0 K x1)):=hid HR.out;obtain⟨z0,hz0,hzr⟩:∃ z0,(K x1)[0]?=some z0∧k0 K x1=z0:=by
          have h1:0 < (K x1).length:=by rw [← HBL.out];exact Nat.one_pos
          exact⟨_,List.getElem?_eq_getElem h1,OO (List.getElem?_eq_getElem h1)⟩
         obtain⟨b9,rfl,bs9,c9⟩:=HB.out 0 z0 hz0;have hV:=UJ (HG.out.below hbl) hW z0 (hW.kin x1 z0 (List.mem_of_getElem? hz0)).2;rw [hzr] at HR3;clear HR hz0 hzr;rcases hw2 with h|h <;> rw [h] at d3 <;> clear h <;> rcases hA2 with h|h <;> subst h <;> (go_wp2_with fail;refine hV.mono ?_;rintro e w5 ⟨rfl,hb5⟩;have hbl:=dA hbl hb5;clear hV hb5;go_wp2_with fail;go_ret;exact⟨VC (by rw [HR3.out]),hbl⟩)
        ·have hr:true=R:=by
          rw [HR.out,show (B != 1)=true from by simpa using hB1];rfl
         subst hr;clear HR;rcases hw2 with h|h <;> rw [h] at d3 <;> clear h <;> rcases hA2 with h|h <;> subst h <;> (go_wp2_with fail;go_ret;exact⟨rfl,hbl⟩)
end Shp
end Go.Proofs.YtcjmpafkcmlhbaaGreatDoor
