import Derived.Test.YtcjmpafkcmlhbaaGreatDoorQBO
namespace Go.Proofs.YtcjmpafkcmlhbaaGreatDoor
open _root_.Go.Lib(hid)
set_option linter.all false
set_option maxHeartbeats 40000000
set_option maxRecDepth 100000
namespace Shp
open Go.RowKit
open Grd (Pt)
variable {w w':World}{l:List Pt}{K:Nat→List Nat}{U:Nat→Option Nat}{T nb:Nat→Nat}
def uk (l:List Pt) (U:Nat→Option Nat) (i:Nat):Option UInt8:=(U i).bind (kd l)
theorem Gr.kvU (h:Gr l K U T nb w) (hW:Wf l K U T) {i:Nat} (hi:i < l.length):KV w (RF nb (U i)) (uk l U i):=by
 unfold uk;cases hU:U i with
 | none=>exact .inl ⟨rfl,rfl⟩
 | some j =>
  obtain⟨p,hp⟩:=CC (show j < l.length by have:=(hW.up i j hU).1;omega);have h1:=h.kv hp;rw [Option.bind_some,zB hp];exact h1
def lI (l:List Pt) (K:Nat→List Nat) (U:Nat→Option Nat) (T:Nat→Nat) (i:Nat):Bool :=
 kd l i==some 15&&(match U i with
  | none=>false
  | some j=>kd l j==some 14&&!XE l K i&&(K j).any (XE l K)&&(!((K j).drop (T i+1)).any (XE l K)||!(kd l ((K i).getD 1 0)==some 26)))
theorem uM (hG:Gr l K U T nb w) (hW:Wf l K U T) (i:Nat) (hi:i < l.length):Calls Tryz.prog 41 #[.pointer (some ⟨nb i,0,none⟩)] w fun e w'=>e=.returned (.bool (lI l K U T i))∧Below w.heap.size w w':=by
 obtain⟨p,hp⟩:=CC hi;obtain⟨R,hR⟩:∃ R,R=lI l K U T i:=⟨_,rfl⟩;rw [← hR];unfold lI at hR;rw [zB hp,yA] at hR;have HI:=hid (fun w2 (hb2:Below w.heap.size w w2)=>is1 ((hG.below hb2).kv hp) 15 (xi:=15) rfl 5);have HI2:=hid (fun w2 (hb2:Below w.heap.size w w2)=>is1 ((hG.below hb2).kvU hW hi) 14 (xi:=14) rfl 5);have HT:=hid (fun w2 (hb2:Below w.heap.size w w2)=>RH (hG.below hb2) hW i hi);rw [qE] at HI;have HR:=hid hR;have HG:=hid hG;have HP:=hid hp;have hbl:=Below.refl w.heap.size w;clear hR hG hp;go_enter Tryz.func41,Tryz.ntmps41;cases hk:(p.k==15) with
 | false =>
  have hr:false=R:=by rw [HR.out,hk];rfl
  subst hr;rw [hk] at HI;clear hk HR;go_wp2_with fail;refine (HI.out _ hbl).mono ?_;rintro e w2 ⟨rfl,hb9⟩;replace hbl:=dA hbl hb9;clear hb9;go_wp2_with fail;go_ret;exact⟨rfl,hbl⟩
 | true =>
  have hk2:p.k=15:=beq_iff_eq.1 hk;obtain⟨k1,q1,hK1,hq1,_,hl1⟩:=hW.kid (m:=1) HP.out (by rw [hk2];decide);rw [hk] at HI;rw [hk,Bool.true_and] at HR;cases hU:U i with
  | none =>
   unfold uk at HI2;rw [hU] at HR HI2;have hr:false=R:=HR.out.symm;subst hr;have HU:=hid hU;rw [show isB ((none:Option Nat).bind (kd l)) [14]=false from rfl] at HI2;clear HR hU hk hk2 hK1 hq1 hl1;go_wp2_with fail;refine (HI.out _ hbl).mono ?_;rintro e w2 ⟨rfl,hb9⟩;replace hbl:=dA hbl hb9;clear hb9;obtain⟨kb,cap,c0,_,_,_,_,c4,_⟩:=(HG.out.below hbl).cells HP.out;rw [HU.out] at c4;simp only [RF] at c4;go_wp2_with fail;refine (HI2.out _ hbl).mono ?_;rintro e w2 ⟨rfl,hb9⟩;replace hbl:=dA hbl hb9;clear hb9;go_wp2_with fail;go_ret;exact⟨rfl,hbl⟩
  | some j =>
   obtain⟨hji,hKT⟩:=hW.up i j hU;obtain⟨q,hq⟩:=CC (show j < l.length by omega);unfold uk at HI2;rw [hU] at HR HI2;rw [show (some j).bind (kd l)=some q.k from zB hq,qE] at HI2;simp only [zB hq,yA] at HR;have HU:=hid (And.intro hU hq);clear hU;cases hk3:(q.k==14) with
   | false =>
    rw [hk3] at HR HI2;have hr:false=R:=HR.out.symm;subst hr;clear HR hk hk2 hk3 hK1 hq1 hl1 hq hKT;go_wp2_with fail;refine (HI.out _ hbl).mono ?_;rintro e w2 ⟨rfl,hb9⟩;replace hbl:=dA hbl hb9;clear hb9;obtain⟨kb,cap,c0,_,_,_,_,c4,_⟩:=(HG.out.below hbl).cells HP.out;rw [HU.out.1] at c4;simp only [RF] at c4;go_wp2_with fail;refine (HI2.out _ hbl).mono ?_;rintro e w2 ⟨rfl,hb9⟩;replace hbl:=dA hbl hb9;clear hb9;go_wp2_with fail;go_ret;exact⟨rfl,hbl⟩
   | true =>
    rw [hk3,Bool.true_and] at HR;rw [hk3] at HI2;cases hk4:XE l K i with
    | true =>
     rw [hk4] at HT HR;have hr:false=R:=HR.out.symm;subst hr;clear HR hk hk2 hk3 hk4 hK1 hq1 hl1 hq hKT;go_wp2_with fail;refine (HI.out _ hbl).mono ?_;rintro e w2 ⟨rfl,hb9⟩;replace hbl:=dA hbl hb9;clear hb9;obtain⟨kb,cap,c0,_,_,_,_,c4,_⟩:=(HG.out.below hbl).cells HP.out;rw [HU.out.1] at c4;simp only [RF] at c4;go_wp2_with fail;refine (HI2.out _ hbl).mono ?_;rintro e w2 ⟨rfl,hb9⟩;replace hbl:=dA hbl hb9;clear hb9;go_wp2_with fail;refine (HT.out _ hbl).mono ?_;rintro e w2 ⟨rfl,hb9⟩;replace hbl:=dA hbl hb9;clear hb9;go_wp2_with fail;go_ret;exact⟨rfl,hbl⟩
    | false =>
     rw [hk4] at HT HR;simp only [Bool.not_false,Bool.true_and] at HR;have HS:=hid (fun w2 (hb2:Below w.heap.size w w2)=>DP (XE l K) (HG.out.below hb2) hW (fun w' k h hk=>RH h hW k hk) j (by omega));cases hk5:(K j).any (XE l K) with
     | false =>
      rw [hk5] at HS HR;have hr:false=R:=HR.out.symm;subst hr;clear HR hk hk2 hk3 hk4 hk5 hK1 hq1 hl1 hq hKT;go_wp2_with fail;refine (HI.out _ hbl).mono ?_;rintro e w2 ⟨rfl,hb9⟩;replace hbl:=dA hbl hb9;clear hb9;obtain⟨kb,cap,c0,_,_,_,_,c4,_⟩:=(HG.out.below hbl).cells HP.out;rw [HU.out.1] at c4;simp only [RF] at c4;go_wp2_with fail;refine (HI2.out _ hbl).mono ?_;rintro e w2 ⟨rfl,hb9⟩;replace hbl:=dA hbl hb9;clear hb9;go_wp2_with fail;refine (HT.out _ hbl).mono ?_;rintro e w2 ⟨rfl,hb9⟩;replace hbl:=dA hbl hb9;clear hb9;obtain⟨kb,cap,c0,_,_,_,_,c4,_⟩:=(HG.out.below hbl).cells HP.out;rw [HU.out.1] at c4;simp only [RF] at c4;go_wp2_with fail;refine (HS.out _ hbl).mono ?_;rintro e w2 ⟨rfl,hb9⟩;replace hbl:=dA hbl hb9;clear hb9;go_wp2_with fail;go_ret;exact⟨rfl,hbl⟩
     | true =>
      rw [hk5] at HS HR;simp only [Bool.true_and] at HR;have HK:=hid (And.intro hK1 (And.intro hq1 (And.intro hl1 hKT)));clear hk hk2 hk3 hk4 hk5 hK1 hq1 hl1 hq hKT;go_wp2_with fail;refine (HI.out _ hbl).mono ?_;rintro e w2 ⟨rfl,hb9⟩;replace hbl:=dA hbl hb9;clear hb9;obtain⟨kb,cap,c0,_,_,_,_,c4,_⟩:=(HG.out.below hbl).cells HP.out;rw [HU.out.1] at c4;simp only [RF] at c4;go_wp2_with fail;refine (HI2.out _ hbl).mono ?_;rintro e w2 ⟨rfl,hb9⟩;replace hbl:=dA hbl hb9;clear hb9;go_wp2_with fail;refine (HT.out _ hbl).mono ?_;rintro e w2 ⟨rfl,hb9⟩;replace hbl:=dA hbl hb9;clear hb9;obtain⟨kb,cap,c0,_,_,_,_,c4,_⟩:=(HG.out.below hbl).cells HP.out;rw [HU.out.1] at c4;simp only [RF] at c4;go_wp2_with fail;refine (HS.out _ hbl).mono ?_;rintro e w2 ⟨rfl,hb9⟩;replace hbl:=dA hbl hb9;clear hb9;go_upto_region 4 with fail;obtain⟨kb,cap,c0,_,_,_,_,c4,c5,c6,hcap,hrow⟩:=(HG.out.below hbl).cells HP.out;rw [HU.out.1] at c4;simp only [RF] at c4;obtain⟨kbj,capj,d0,_,_,_,_,_,_,d6,dcap,drow⟩:=(HG.out.below hbl).cells HU.out.2;obtain⟨hK1,hq1,hl1,hKT⟩:=HK.out;have hKl:=(List.getElem?_eq_some_iff.1 hKT).1;have hfew:=hW.few j;have hlen:=hW.len;have HROW:=hid hrow;have HDROW:=hid drow;obtain⟨n,hn⟩:∃ n,n=(K j).length:=⟨_,rfl⟩;rw [← hn] at d6 dcap hKl hfew;obtain⟨tn,htn⟩:∃ tn,tn=T i:=⟨_,rfl⟩;rw [← htn] at c5 hKl HR;have HN:=hid (And.intro hn htn);have n1:n≤1000000000:=by omega
      have z1:IntKind.i64.wrap ((tn:Int)+1)=(tn:Int)+1:=by simp [IntKind.wrap,IntKind.bits,IntKind.signed];omega
      have z2:(0:Int)≤(tn:Int)+1:=by omega
      have z3:(tn:Int)+1≤(n:Int):=by omega
      have z4:(n:Int)≤(capj:Int):=by omega
      have z5:(tn:Int)+1≤(capj:Int):=by omega
      clear hrow drow hn htn hK1 hq1 hl1 hKT hfew hlen
      go_cut [43,44,45] from 31 to 45 (fun v43 v44 v45 wx=>v44=.int .i64 ((n - (tn+1):Nat):Int)∧v45=.int .i64 0∧(∃ sa sc,v43=.slice sa (n - (tn+1)) sc∧∀ (a k:Nat),(K j)[tn+1+a]?=some k→∃ b off,sa=some ⟨b,off,none⟩∧b < w2.heap.size∧w2.cell? ⟨b,off+a,none⟩=some (.pointer (some ⟨nb k,0,none⟩)))∧∃ q,wx=w2.drewN q)
      case first =>
       go_wp2_with fail;go_big_quiet (fail);go_wp2_with fail
       ·go_meet
        refine⟨rfl,rfl,⟨_,_,rfl,fun a k hk=>?_⟩,_,rfl⟩;have h1:=(List.getElem?_eq_some_iff.1 hk).1;have h2:=HN.out.1;omega
       ·go_meet
        refine⟨rfl,rfl,⟨_,_,rfl,fun a k hk=>?_⟩,_,rfl⟩;obtain⟨b,rfl,h3,h4⟩:=HDROW.out _ k hk;exact⟨b,tn+1,by simp,h3,h4⟩
      case rest =>
       obtain⟨rfl,rfl,⟨sa,sc,rfl,hsa⟩,nq,hw⟩:=hcut;replace hw:=hw.symm;subst hw;replace hbl:=Go.below_drewN hbl nq;have HSA:=hid hsa;obtain⟨m,hm⟩:∃ m,m=n - (tn+1):=⟨_,rfl⟩;rw [← hm];obtain⟨V,hV⟩:∃ V,V=((K j).drop (tn+1)).any (XE l K):=⟨_,rfl⟩;rw [← hV] at HR;have HV:=hid hV;have HM:=hid (And.intro hm n1);have m1:m≤1000000000:=by omega
       have hb0:=hbl;clear hsa hV hm z1 z2 z3 z4 z5 c4 c5 c6 d6 hcap dcap hKl n1 c0 d0 hbl;go_wp2_with fail
       go_loopg [3,5,45] m (fun q v3 v5 v45 wr=>∃ (a:Nat) (b:Bool),v45=.int .i64 (a:Int)∧a+q=m∧v3=.bool b∧(b||((K j).drop (tn+1+a)).any (XE l K))=V∧Below (w2.drewN nq).heap.size (w2.drewN nq) wr)
       case atStart=>exact⟨0,false,rfl,by omega,rfl,by rw [HV.out];rfl,Below.refl _ _⟩
       case round =>
        obtain⟨a,bb,rfl,hq2,rfl,hv2,hb2⟩:=hrel;have hbl:=dA hb0 hb2;by_cases ha:a < m
        ·obtain⟨k,qk,hk,hqk,_⟩:=hW.kidAt (i:=j) (m:=tn+1+a) (by have:=HN.out.1;have:=HM.out;omega);obtain⟨b,off,rfl,hbs,c7⟩:=HSA.out a k hk;have c7:=mD hb2 (p:=⟨b,off+a,none⟩) hbs c7;have hklt:=(List.getElem?_eq_some_iff.1 hqk).1;rw [lF hk,List.any_cons] at hv2;have a0:(0:Int)≤(a:Int):=by omega
         have a1:(a:Int) < (m:Int):=by omega
         have a2:decide (a < m)=true:=decide_eq_true ha;have HQ2:=hid hq2;have HV2:=hid hv2;clear hk hqk hq2 hv2;cases bb with
         | true =>
          go_wp2_with fail;go_roundg (gk - 1)
          case measure=>have:=HQ2.out;omega
          case rel=>exact⟨a+1,true,by simp,by have:=HQ2.out;omega,rfl,by rw [← HV2.out];rfl,hb2⟩
         | false =>
          have hTk:=RH (HG.out.below hbl) hW k hklt;go_wp2_with fail;refine hTk.mono ?_;rintro e w9 ⟨rfl,hb9⟩;have hb3:=dA hb2 hb9;clear hTk hb9;go_wp2_with fail;go_roundg (gk - 1)
          case measure=>have:=HQ2.out;omega
          case rel=>exact⟨a+1,XE l K k,by simp,by have:=HQ2.out;omega,rfl,by rw [← HV2.out];rfl,hb3⟩
        ·have hd:(K j).drop (tn+1+a)=[]:=List.drop_eq_nil_of_le (by have:=HN.out.1;have:=HM.out;omega);rw [hd] at hv2;have hv3:bb=V:=by rw [← hv2];simp
         subst hv3;have a2:decide (a < m)=false:=decide_eq_false ha;obtain⟨hK1,hq1,hl1,hKT⟩:=HK.out;obtain⟨kb,cap,c0,_,_,_,_,c4,c5,c6,hcap,hrow⟩:=(HG.out.below hbl).cells HP.out;obtain⟨b,rfl,hbs,c7⟩:=hrow 1 k1 hK1;obtain⟨x,hx⟩:∃ x,(K i).length=x+2:=⟨(K i).length - 2,by omega⟩;rw [hx] at c6 hcap;have hI9:=is1 ((HG.out.below hbl).kv hq1) 26 (xi:=26) rfl 5;rw [qE] at hI9;rw [List.getD_eq_getElem?_getD,hK1,Option.getD_some,zB hq1,yA] at HR;have x1:x≤1000000000:=by have:=hW.few i;have:=hW.len;omega
         have x2:(1:Int) < (x:Int)+2:=by omega
         generalize (q1.k==26)=Y at *;clear hd hv2 hq2 ha hK1 hq1 hl1 hKT hrow hx;cases bb with
         | false =>
          have hr:true=R:=HR.out.symm;subst hr;clear HR hI9;go_wp2_with fail;go_ret;exact⟨rfl,hbl⟩
         | true =>
          have hr:(!Y)=R:=HR.out.symm;subst hr;clear HR;go_wp2_with fail;refine hI9.mono ?_;rintro e w9 ⟨rfl,hb9⟩;have hbl:=dA hbl hb9;clear hI9 hb9;go_wp2_with fail;go_ret;exact⟨rfl,hbl⟩
end Shp
namespace Shp
open Go.RowKit
open Grd (Pt)
variable {w w':World}{l:List Pt}{K:Nat→List Nat}{U:Nat→Option Nat}{T nb:Nat→Nat}
def k0 (K:Nat→List Nat) (i:Nat):Nat:=(K i).getD 0 0
def k1 (K:Nat→List Nat) (i:Nat):Nat:=(K i).getD 1 0
def LK (l:List Pt) (K:Nat→List Nat) (i:Nat):Bool :=
 kd l i==some 53&&(if wd l i==[61]||wd l i==[58,61] then (K (k1 K i)).length != 1&&(K (k1 K i)).length != (K (k0 K i)).length else (K (k0 K i)).length != 1||(K (k1 K i)).length != 1)
theorem VC {a b:Bool} (h:a=b):Ending.returned (.bool a)=.returned (.bool b):=by rw [h]
theorem GK (a b:Nat):((a:Int) != (b:Int))=(a != b):=by
 rw [Bool.eq_iff_iff];simp only [bne_iff_ne,ne_eq];omega
theorem OO {ks:List Nat}{m k:Nat} (h:ks[m]?=some k):ks.getD m 0=k:=by rw [List.getD_eq_getElem?_getD,h];rfl
theorem wP (hG:Gr l K U T nb w) (hW:Wf l K U T) (i:Nat) (hi:i < l.length):Calls Tryz.prog 46 #[.pointer (some ⟨nb i,0,none⟩)] w fun e w'=>e=.returned (.bool (LK l K i))∧Below w.heap.size w w':=by
 obtain⟨p,hp⟩:=CC hi;obtain⟨R,hR⟩:∃ R,R=LK l K i:=⟨_,rfl⟩;rw [← hR];unfold LK at hR;rw [zB hp,QJ hp,yA] at hR;have hI:=is1 (hG.kv hp) 53 (xi:=53) rfl 5;rw [qE] at hI;have HR:=hid hR;have HG:=hid hG;clear hR hG;go_enter Tryz.func46,Tryz.ntmps46;cases hk:(p.k==53) with
 | false =>
  have hr:false=R:=by rw [HR.out,hk];rfl
  subst hr;rw [hk] at hI;clear hk HR hp;go_wp2_with fail;refine hI.mono ?_;rintro e w2 ⟨rfl,hbl⟩;clear hI;go_wp2_with fail;go_ret;exact⟨rfl,hbl⟩
 | true =>
  have hk2:p.k=53:=beq_iff_eq.1 hk;obtain⟨x0,q0,h0,hq0,_,hl0⟩:=hW.kid (m:=0) hp (by rw [hk2];decide);obtain⟨x1,q1,h1,hq1,_,hl1⟩:=hW.kid (m:=1) hp (by rw [hk2];decide);rw [hk] at hI;rw [hk,Bool.true_and] at HR;rw [show k0 K i=x0 from OO h0,show k1 K i=x1 from OO h1] at HR;have HP:=hid (And.intro hp (And.intro h0 (And.intro h1 (And.intro hq0 (And.intro hq1 hl1)))));clear hk hk2 hp h0 h1 hq0 hq1 hl0 hl1;go_wp2_with fail;refine hI.mono ?_;rintro e w2 ⟨rfl,hbl⟩;clear hI;obtain⟨hp,h0,h1,hq0,hq1,hl1⟩:=HP.out;have hG2:=HG.out.below hbl;obtain⟨kb,cap,c0,_,_,c3,_,_,_,c6,hcap,hrow⟩:=hG2.cells hp;obtain⟨_,cap0,_,_,_,_,_,_,_,d6,dcap,_⟩:=hG2.cells hq0;obtain⟨_,cap1,_,_,_,_,_,_,_,e6,ecap,_⟩:=hG2.cells hq1;obtain⟨b,rfl,hbs,c7⟩:=hrow 0 x0 h0;obtain⟨b',eb,_,c8⟩:=hrow 1 x1 h1;cases eb;obtain⟨x,hx⟩:∃ x,(K i).length=x+2:=⟨(K i).length - 2,by omega⟩;rw [hx] at c6 hcap;have hlen:=hW.len;have f1:=hW.few i;have f2:=hW.few x0;have f3:=hW.few x1;rw [hx] at f1;generalize (K x0).length=A at *;generalize (K x1).length=B at *;have y1:(0:Int) < (x:Int)+2:=by omega
  have y2:(1:Int) < (x:Int)+2:=by omega
  have y3:x≤1000000000:=by omega
  have y4:A≤1000000000:=by omega
  have y5:B≤1000000000:=by omega
  have g1:((B:Int) != 1)=(B != 1):=GK B 1;have g2:((A:Int) != 1)=(A != 1):=GK A 1;have g3:((B:Int) != (A:Int))=(B != A):=GK B A;have HG3:=hid (And.intro g1 (And.intro g2 g3));clear hp h0 h1 hq0 hq1 hl1 hrow hx f1 f2 f3 hG2 hlen g1 g2 g3 HP;go_wp2_with fail;go_big_quiet (fail);replace hbl:=Go.below_drewN hbl nq;cases e1:(p.w==[61]) with
  | true =>
   have e2:p.w=[61]:=beq_iff_eq.1 e1;rw [e1,Bool.true_or,if_pos rfl] at HR;rw [e2] at c3;clear e1 e2;go_wp2_with fail
   all_goals (go_ret;refine⟨VC ?_,hbl⟩;rw [HR.out,Bool.eq_iff_iff];simp <;> omega)
  | false =>
   have e3:(p.w.toArray==[61].toArray)=false:=by rw [← e1];rw [Bool.eq_iff_iff];simp
   rw [e1,Bool.false_or] at HR;cases e4:(p.w==[58,61]) with
   | true =>
    have e2:p.w=[58,61]:=beq_iff_eq.1 e4;rw [e4,if_pos rfl] at HR;rw [e2] at c3;clear e1 e2 e3 e4;go_wp2_with fail
    all_goals (go_ret;refine⟨VC ?_,hbl⟩;rw [HR.out,Bool.eq_iff_iff];simp <;> omega)
   | false =>
    rw [e4,if_neg (by decide)] at HR;go_wp2_with fail
    all_goals (go_ret;refine⟨VC ?_,hbl⟩;rw [HR.out,Bool.eq_iff_iff];simp <;> omega)
end Shp
namespace Shp
open Go.RowKit
open Grd (Pt)
variable {w w':World}{l:List Pt}{K:Nat→List Nat}{U:Nat→Option Nat}{T nb:Nat→Nat}
theorem Gr.kid (h:Gr l K U T nb w) {i m k:Nat}{p:Pt} (hp:l[i]?=some p) (hk:(K i)[m]?=some k):∃ b x cap,w.cell? ⟨nb i,6,none⟩=some (.slice (some ⟨b,0,none⟩) (x+(m+1)) cap)∧x+(m+1)≤cap∧(m:Int) < (x:Int)+((m:Int)+1)∧b < w.heap.size∧w.cell? ⟨b,m,none⟩=some (.pointer (some ⟨nb k,0,none⟩)):=by
 obtain⟨kb,cap,_,_,_,_,_,_,_,c6,hcap,hrow⟩:=h.cells hp;obtain⟨b,rfl,hb,hc⟩:=hrow m k hk;have h1:=(List.getElem?_eq_some_iff.1 hk).1;refine⟨b,(K i).length - (m+1),cap,?_,by omega,by omega,hb,hc⟩;rw [show (K i).length - (m+1)+(m+1)=(K i).length from by omega];exact c6
theorem Gr.wordc (h:Gr l K U T nb w) {i:Nat}{p:Pt} (hp:l[i]?=some p):w.cell? ⟨nb i,2,none⟩=some (.string ⟨p.w.toArray⟩):=by
 obtain⟨_,_,_,_,_,c,_⟩:=h.cells hp;exact c
theorem Gr.upc (h:Gr l K U T nb w) {i:Nat}{p:Pt} (hp:l[i]?=some p):w.cell? ⟨nb i,4,none⟩=some (RF nb (U i)):=by
 obtain⟨_,_,_,_,_,_,_,c,_⟩:=h.cells hp;exact c
theorem Gr.nthc (h:Gr l K U T nb w) {i:Nat}{p:Pt} (hp:l[i]?=some p):w.cell? ⟨nb i,5,none⟩=some (.int .i64 (T i:Int)):=by
 obtain⟨_,_,_,_,_,_,_,_,c,_⟩:=h.cells hp;exact c
theorem Gr.kindc (h:Gr l K U T nb w) {i:Nat}{p:Pt} (hp:l[i]?=some p):w.cell? ⟨nb i,0,none⟩=some (.int .u8 (p.k.toNat:Int)):=by
 obtain⟨_,_,_,c,_⟩:=h.cells hp;exact c
theorem Wf.arg (h:Wf l K U T) {i m:Nat}{p:Pt} (hp:l[i]?=some p) (hm:(m:Int) < (gD p.k.toNat).1):∃ k q,(K i)[m]?=some k∧l[k]?=some q∧k < l.length∧(K i).getD m 0=k:=by
 obtain⟨k,q,h1,h2,h3,h4⟩:=h.kid hp hm;exact⟨k,q,h1,h2,(List.getElem?_eq_some_iff.1 h2).1,OO h1⟩
def b2 (l:List Pt) (i:Nat):Bool:=kd l i==some 33
theorem aX (hG:Gr l K U T nb w) (i:Nat) (hi:i < l.length):Calls Tryz.prog 40 #[.pointer (some ⟨nb i,0,none⟩)] w fun e w'=>e=.returned (.bool (b2 l i))∧Below w.heap.size w w':=by
 obtain⟨p,hp⟩:=CC hi;have hI:=is1 (hG.kv hp) 33 (xi:=33) rfl 5;rw [qE] at hI;unfold b2;rw [zB hp,yA];go_enter Tryz.func40,Tryz.ntmps40;go_wp2_with fail;refine hI.mono ?_;rintro e w2 ⟨rfl,hbl⟩;clear hI;go_wp2_with fail;go_ret;exact⟨rfl,hbl⟩
def b1 (l:List Pt) (U:Nat→Option Nat) (T:Nat→Nat) (i:Nat):Bool:=kd l i==some 42&&!(uk l U i==some 39&&T i==0)
theorem IP (a:Nat):((a:Int)==0)=(a==0):=by rw [Bool.eq_iff_iff];simp only [beq_iff_eq];omega
theorem aZ (k:Option UInt8) (y:UInt8):isB k [y]=(k==some y):=by
 cases k with
 | none=>rfl
 | some x=>rw [qE];rfl
theorem rX (hG:Gr l K U T nb w) (hW:Wf l K U T) (i:Nat) (hi:i < l.length):Calls Tryz.prog 38 #[.pointer (some ⟨nb i,0,none⟩)] w fun e w'=>e=.returned (.bool (b1 l U T i))∧Below w.heap.size w w':=by
 obtain⟨p,hp⟩:=CC hi;obtain⟨R,hR⟩:∃ R,R=b1 l U T i:=⟨_,rfl⟩;rw [← hR];unfold b1 at hR;rw [zB hp,yA] at hR;have hI:=is1 (hG.kv hp) 42 (xi:=42) rfl 5;have HI2:=hid (fun w2 (hb2:Below w.heap.size w w2)=>is1 ((hG.below hb2).kvU hW hi) 39 (xi:=39) rfl 5);rw [qE] at hI;simp only [aZ] at HI2;have HR:=hid hR;have HG:=hid hG;have HP:=hid hp;clear hR hG hp hi;go_enter Tryz.func38,Tryz.ntmps38;cases hk:(p.k==42) with
 | false =>
  have hr:false=R:=by rw [HR.out,hk];rfl
  subst hr;rw [hk] at hI;clear hk HR;go_wp2_with fail;refine hI.mono ?_;rintro e w2 ⟨rfl,hbl⟩;clear hI;go_wp2_with fail;go_ret;exact⟨rfl,hbl⟩
 | true =>
  rw [hk] at hI;rw [hk,Bool.true_and] at HR;clear hk;go_wp2_with fail;refine hI.mono ?_;rintro e w2 ⟨rfl,hbl⟩;obtain⟨_,_,c0,_,_,_,_,c4,c5,_⟩:=(HG.out.below hbl).cells HP.out;have hI2:=HI2.out w2 hbl;clear hI;generalize RF nb (U i)=uv at *;cases hu:(uk l U i==some 39) with
  | false =>
   rw [hu] at hI2;have hr:true=R:=by rw [HR.out,hu];rfl
   subst hr;clear hu HR HI2;go_wp2_with fail;refine hI2.mono ?_;rintro e w3 ⟨rfl,hb3⟩;have hbl:=dA hbl hb3;clear hI2 hb3;go_wp2_with fail;go_ret;exact⟨rfl,hbl⟩
  | true =>
   rw [hu] at hI2;have hr:(!(T i==0))=R:=by rw [HR.out,hu];rfl
   clear hu HR HI2;go_wp2_with fail;refine hI2.mono ?_;rintro e w3 ⟨rfl,hb3⟩;have hbl:=dA hbl hb3;have c5:=aA hb3 c5;clear hI2 hb3;go_wp2_with fail;go_ret;exact⟨VC (by rw [← hr,IP]),hbl⟩
def b5 (l:List Pt) (K:Nat→List Nat) (i:Nat):Bool:=(kd l i==some 54||kd l i==some 55)&&!(kd l (k0 K i)==some 34)
theorem JW (hG:Gr l K U T nb w) (hW:Wf l K U T) (i:Nat) (hi:i < l.length):Calls Tryz.prog 43 #[.pointer (some ⟨nb i,0,none⟩)] w fun e w'=>e=.returned (.bool (b5 l K i))∧Below w.heap.size w w':=by
 obtain⟨p,hp⟩:=CC hi;obtain⟨R,hR⟩:∃ R,R=b5 l K i:=⟨_,rfl⟩;rw [← hR];unfold b5 at hR;rw [zB hp,yA,yA] at hR;have hI:=is2 (hG.kv hp) 54 55 (xi:=54) (yi:=55) rfl rfl 5;rw [oW] at hI;have HR:=hid hR;have HG:=hid hG;clear hR hG hi;go_enter Tryz.func43,Tryz.ntmps43;cases hk:(p.k==54||p.k==55) with
 | false =>
  have hr:false=R:=by rw [HR.out,hk];rfl
  subst hr;rw [hk] at hI;clear hk HR hp;go_wp2_with fail;refine hI.mono ?_;rintro e w2 ⟨rfl,hbl⟩;clear hI;go_wp2_with fail;go_ret;exact⟨rfl,hbl⟩
 | true =>
  obtain⟨x0,q0,h0,hq0,_,hx0⟩:=hW.arg (m:=0) hp (by
   rw [Bool.or_eq_true,beq_iff_eq,beq_iff_eq] at hk;rcases hk with hk|hk <;> rw [hk] <;> decide)
  rw [hk] at hI;rw [hk,Bool.true_and,show k0 K i=x0 from hx0,zB hq0,yA] at HR;have HP:=hid (And.intro hp (And.intro h0 hq0));clear hk hp h0 hq0 hx0;go_wp2_with fail;refine hI.mono ?_;rintro e w2 ⟨rfl,hbl⟩;obtain⟨b,x,cap,c6,hcap,hx,hb,c7⟩:=(HG.out.below hbl).kid HP.out.1 HP.out.2.1;have hI2:=is1 ((HG.out.below hbl).kv HP.out.2.2) 34 (xi:=34) rfl 5;rw [qE] at hI2;clear hI;go_wp2_with fail;refine hI2.mono ?_;rintro e w3 ⟨rfl,hb3⟩;have hbl:=dA hbl hb3;clear hI2 hb3;go_wp2_with fail;go_ret;exact⟨VC (by rw [HR.out]),hbl⟩
end Shp
namespace Shp
open Go.RowKit
open Grd (Pt)
variable {w w':World}{l:List Pt}{K:Nat→List Nat}{U:Nat→Option Nat}{T nb:Nat→Nat}
def b6 (l:List Pt) (K:Nat→List Nat) (i:Nat):Bool:=kd l i==some 53&&(wd l i==[58,61]&&!OD l K (k0 K i))
theorem vX (hG:Gr l K U T nb w) (hW:Wf l K U T) (i:Nat) (hi:i < l.length):Calls Tryz.prog 44 #[.pointer (some ⟨nb i,0,none⟩)] w fun e w'=>e=.returned (.bool (b6 l K i))∧Below w.heap.size w w':=by
 obtain⟨p,hp⟩:=CC hi;obtain⟨R,hR⟩:∃ R,R=b6 l K i:=⟨_,rfl⟩;rw [← hR];unfold b6 at hR;rw [zB hp,QJ hp,yA] at hR;have hI:=is1 (hG.kv hp) 53 (xi:=53) rfl 5;rw [qE] at hI;have HR:=hid hR;have HG:=hid hG;clear hR hG hi;go_enter Tryz.func44,Tryz.ntmps44;cases hk:(p.k==53) with
 | false =>
  have hr:false=R:=by rw [HR.out,hk];rfl
  subst hr;rw [hk] at hI;clear hk HR hp;go_wp2_with fail;refine hI.mono ?_;rintro e w2 ⟨rfl,hbl⟩;clear hI;go_wp2_with fail;go_ret;exact⟨rfl,hbl⟩
 | true =>
  obtain⟨x0,q0,h0,hq0,hl0,hx0⟩:=hW.arg (m:=0) hp (by rw [beq_iff_eq.1 hk];decide);rw [hk] at hI;rw [hk,Bool.true_and,show k0 K i=x0 from hx0] at HR;have HP:=hid (And.intro hp (And.intro h0 hl0));clear hk hp h0 hq0 hx0;go_wp2_with fail;refine hI.mono ?_;rintro e w2 ⟨rfl,hbl⟩;have c3:=(HG.out.below hbl).wordc HP.out.1;obtain⟨b,x,cap,c6,hcap,hx,hb,c7⟩:=(HG.out.below hbl).kid HP.out.1 HP.out.2.1;have hN:=ZG (HG.out.below hbl) hW x0 HP.out.2.2;clear hI;cases e4:(p.w==[58,61]) with
  | false =>
   rw [e4,Bool.false_and] at HR;have hr:false=R:=HR.out.symm;subst hr;clear HR hN;go_wp2_with fail;go_ret;exact⟨rfl,hbl⟩
  | true =>
   have e2:p.w=[58,61]:=beq_iff_eq.1 e4;rw [e4,Bool.true_and] at HR;rw [e2] at c3;clear e2 e4;go_wp2_with fail;refine hN.mono ?_;rintro e w3 ⟨rfl,hb3⟩;have hbl:=dA hbl hb3;clear hN hb3;go_wp2_with fail;go_ret;exact⟨VC (by rw [HR.out]),hbl⟩
def b11 (l:List Pt) (K:Nat→List Nat) (i:Nat):Bool:=kd l i==some 50&&(!(kd l (XF l K l.length (k0 K i))==some 34)&&!MU l K (k0 K i))
theorem cV (hG:Gr l K U T nb w) (hW:Wf l K U T) (i:Nat) (hi:i < l.length):Calls Tryz.prog 50 #[.pointer (some ⟨nb i,0,none⟩)] w fun e w'=>e=.returned (.bool (b11 l K i))∧Below w.heap.size w w':=by
 obtain⟨p,hp⟩:=CC hi;obtain⟨R,hR⟩:∃ R,R=b11 l K i:=⟨_,rfl⟩;rw [← hR];unfold b11 at hR;rw [zB hp,yA] at hR;have hI:=is1 (hG.kv hp) 50 (xi:=50) rfl 5;rw [qE] at hI;have HR:=hid hR;have HG:=hid hG;clear hR hG hi;go_enter Tryz.func50,Tryz.ntmps50;cases hk:(p.k==50) with
 | false =>
  have hr:false=R:=by rw [HR.out,hk];rfl
  subst hr;rw [hk] at hI;clear hk HR hp;go_wp2_with fail;refine hI.mono ?_;rintro e w2 ⟨rfl,hbl⟩;clear hI;go_wp2_with fail;go_ret;exact⟨rfl,hbl⟩
 | true =>
  obtain⟨x0,q0,h0,hq0,hl0,hx0⟩:=hW.arg (m:=0) hp (by rw [beq_iff_eq.1 hk];decide);obtain⟨qb,hqb⟩:=CC (YL hW l.length x0 hl0);rw [hk] at hI;rw [hk,Bool.true_and,show k0 K i=x0 from hx0,zB hqb,yA] at HR;have HP:=hid (And.intro hp (And.intro h0 (And.intro hl0 hqb)));clear hk hp h0 hq0 hx0 hqb;go_wp2_with fail;refine hI.mono ?_;rintro e w2 ⟨rfl,hbl⟩;obtain⟨b,x,cap,c6,hcap,hx,hb,c7⟩:=(HG.out.below hbl).kid HP.out.1 HP.out.2.1;have hB:=pN (HG.out.below hbl) hW x0 HP.out.2.2.1;clear hI;go_wp2_with fail;refine hB.mono ?_;rintro e w3 ⟨rfl,hb3⟩;have hbl2:=dA hbl hb3;have c6:=aA hb3 c6;have c7:=aA hb3 c7;have hI2:=is1 ((HG.out.below hbl2).kv HP.out.2.2.2) 34 (xi:=34) rfl 5;rw [qE] at hI2;clear hB hb3 hbl;generalize XF l K l.length x0=xb at *;cases h34:(qb.k==34) with
  | true =>
   rw [h34] at hI2 HR;have hr:false=R:=HR.out.symm;subst hr;clear h34 HR;go_wp2_with fail;refine hI2.mono ?_;rintro e w4 ⟨rfl,hb4⟩;have hbl:=dA hbl2 hb4;clear hI2 hb4;go_wp2_with fail;go_ret;exact⟨rfl,hbl⟩
  | false =>
   rw [h34] at hI2 HR;clear h34;go_wp2_with fail;refine hI2.mono ?_;rintro e w4 ⟨rfl,hb4⟩;have hbl:=dA hbl2 hb4;have c6:=aA hb4 c6;have c7:=aA hb4 c7;have hV:=UJ (HG.out.below hbl) hW x0 HP.out.2.2.1;clear hI2 hb4;go_wp2_with fail;refine hV.mono ?_;rintro e w5 ⟨rfl,hb5⟩;have hbl:=dA hbl hb5;clear hV hb5;go_wp2_with fail;go_ret;exact⟨VC (by rw [HR.out];rfl),hbl⟩
def b15 (l:List Pt) (K:Nat→List Nat) (i:Nat):Bool:=(kd l i==some 9&&kI l K (k1 K i))||(kd l i==some 8&&kI l K (k0 K i))
theorem QV (hG:Gr l K U T nb w) (hW:Wf l K U T) (i:Nat) (hi:i < l.length):Calls Tryz.prog 56 #[.pointer (some ⟨nb i,0,none⟩)] w fun e w'=>e=.returned (.bool (b15 l K i))∧Below w.heap.size w w':=by
 obtain⟨p,hp⟩:=CC hi;obtain⟨R,hR⟩:∃ R,R=b15 l K i:=⟨_,rfl⟩;rw [← hR];unfold b15 at hR;rw [zB hp,yA,yA] at hR;have hI:=is1 (hG.kv hp) 9 (xi:=9) rfl 5;have HJ:=hid (fun w2 (hb2:Below w.heap.size w w2)=>is1 ((hG.below hb2).kv hp) 8 (xi:=8) rfl 5);rw [qE] at hI HJ;have HR:=hid hR;have HG:=hid hG;clear hR hG hi;go_enter Tryz.func56,Tryz.ntmps56;cases hk:(p.k==9) with
 | false =>
  rw [hk] at hI HR;cases hk8:(p.k==8) with
  | false =>
   rw [hk8] at HJ HR;have hr:false=R:=HR.out.symm;subst hr;clear hk hk8 HR hp;go_wp2_with fail;refine hI.mono ?_;rintro e w2 ⟨rfl,hbl⟩;have hI2:=HJ.out w2 hbl;clear hI;go_wp2_with fail;refine hI2.mono ?_;rintro e w3 ⟨rfl,hb3⟩;have hbl:=dA hbl hb3;clear hI2 hb3;go_wp2_with fail;go_ret;exact⟨rfl,hbl⟩
  | true =>
   obtain⟨x0,q0,h0,hq0,hl0,hx0⟩:=hW.arg (m:=0) hp (by rw [beq_iff_eq.1 hk8];decide);rw [hk8,show k0 K i=x0 from hx0] at HR;rw [hk8] at HJ;have HP:=hid (And.intro hp (And.intro h0 hl0));clear hk hk8 hp h0 hq0 hx0;go_wp2_with fail;refine hI.mono ?_;rintro e w2 ⟨rfl,hbl⟩;have hI2:=HJ.out w2 hbl;clear hI;go_wp2_with fail;refine hI2.mono ?_;rintro e w3 ⟨rfl,hb3⟩;have hbl:=dA hbl hb3;obtain⟨b,x,cap,c6,hcap,hx,hb,c7⟩:=(HG.out.below hbl).kid HP.out.1 HP.out.2.1;have hS:=vK (HG.out.below hbl) hW x0 HP.out.2.2;clear hI2 hb3;go_wp2_with fail;refine hS.mono ?_;rintro e w4 ⟨rfl,hb4⟩;have hbl:=dA hbl hb4;clear hS hb4;go_wp2_with fail;go_ret;exact⟨VC (by rw [HR.out];rfl),hbl⟩
 | true =>
  have hk9:=beq_iff_eq.1 hk;have hk8:(p.k==8)=false:=by rw [hk9];rfl
  obtain⟨x1,q1,h1,hq1,hl1,hx1⟩:=hW.arg (m:=1) hp (by rw [hk9];decide);rw [hk,hk8,show k1 K i=x1 from hx1,Bool.true_and,Bool.false_and,Bool.or_false] at HR;rw [hk] at hI;rw [hk8] at HJ;have HP:=hid (And.intro hp (And.intro h1 hl1));clear hk hk8 hk9 hp h1 hq1 hx1;go_wp2_with fail;refine hI.mono ?_;rintro e w2 ⟨rfl,hbl⟩;obtain⟨b,x,cap,c6,hcap,hx,hb,c7⟩:=(HG.out.below hbl).kid HP.out.1 HP.out.2.1;have hS:=vK (HG.out.below hbl) hW x1 HP.out.2.2;clear hI;cases hsp:kI l K x1 with
  | true =>
   rw [hsp] at hS HR;have hr:true=R:=HR.out.symm;subst hr;clear hsp HR;go_wp2_with fail;refine hS.mono ?_;rintro e w4 ⟨rfl,hb4⟩;have hbl:=dA hbl hb4;clear hS hb4;go_wp2_with fail;go_ret;exact⟨rfl,hbl⟩
  | false =>
   rw [hsp] at hS HR;have hr:false=R:=HR.out.symm;subst hr;clear hsp HR;go_wp2_with fail;refine hS.mono ?_;rintro e w4 ⟨rfl,hb4⟩;have hbl:=dA hbl hb4;have hI2:=HJ.out w4 hbl;clear hS hb4;go_wp2_with fail;refine hI2.mono ?_;rintro e w5 ⟨rfl,hb5⟩;have hbl:=dA hbl hb5;clear hI2 hb5;go_wp2_with fail;go_ret;exact⟨rfl,hbl⟩
end Shp
namespace Shp
open Go.RowKit
open Grd (Pt)
variable {w w':World}{l:List Pt}{K:Nat→List Nat}{U:Nat→Option Nat}{T nb:Nat→Nat}
theorem Gr.lenc (h:Gr l K U T nb w) {i:Nat}{p:Pt} (hp:l[i]?=some p):∃ kb cap,w.cell? ⟨nb i,6,none⟩=some (.slice kb (K i).length cap):=by
 obtain⟨kb,cap,_,_,_,_,_,_,_,c,_⟩:=h.cells hp;exact⟨kb,cap,c⟩
def k2 (K:Nat→List Nat) (i:Nat):Nat:=(K i).getD 2 0
def b10 (l:List Pt) (K:Nat→List Nat) (i:Nat):Bool:=kd l i==some 8&&(!(kd l (k0 K i)==some 0)&&((K (k0 K i)).length != 1||!(kd l (k2 K i)==some 0)))
theorem mW (hG:Gr l K U T nb w) (hW:Wf l K U T) (i:Nat) (hi:i < l.length):Calls Tryz.prog 49 #[.pointer (some ⟨nb i,0,none⟩)] w fun e w'=>e=.returned (.bool (b10 l K i))∧Below w.heap.size w w':=by
 obtain⟨p,hp⟩:=CC hi;obtain⟨R,hR⟩:∃ R,R=b10 l K i:=⟨_,rfl⟩;rw [← hR];unfold b10 at hR;rw [zB hp,yA] at hR;have hI:=is1 (hG.kv hp) 8 (xi:=8) rfl 5;rw [qE] at hI;have HR:=hid hR;have HG:=hid hG;clear hR hG hi;go_enter Tryz.func49,Tryz.ntmps49;cases hk:(p.k==8) with
 | false =>
  have hr:false=R:=by rw [HR.out,hk];rfl
  subst hr;rw [hk] at hI;clear hk HR hp;go_wp2_with fail;refine hI.mono ?_;rintro e w2 ⟨rfl,hbl⟩;clear hI;go_wp2_with fail;go_ret;exact⟨rfl,hbl⟩
 | true =>
  have hk8:=beq_iff_eq.1 hk;obtain⟨x0,q0,h0,hq0,hl0,hx0⟩:=hW.arg (m:=0) hp (by rw [hk8];decide);obtain⟨x2,q2,h2,hq2,hl2,hx2⟩:=hW.arg (m:=2) hp (by rw [hk8];decide);rw [hk] at hI;rw [hk,Bool.true_and,show k0 K i=x0 from hx0,show k2 K i=x2 from hx2,zB hq0,zB hq2,yA,yA] at HR;have HP:=hid (And.intro hp (And.intro h0 (And.intro h2 (And.intro hq0 hq2))));clear hk hk8 hp h0 hq0 hx0 h2 hq2 hx2;go_wp2_with fail;refine hI.mono ?_;rintro e w2 ⟨rfl,hbl⟩;obtain⟨b,x,cap,c6,hcap,hx,hb,c7⟩:=(HG.out.below hbl).kid HP.out.1 HP.out.2.1;have hI2:=is1 ((HG.out.below hbl).kv HP.out.2.2.2.1) 0 (xi:=0) rfl 5;rw [qE] at hI2;clear hI;cases h34:(q0.k==0) with
  | true =>
   rw [h34] at hI2 HR;have hr:false=R:=HR.out.symm;subst hr;clear h34 HR;go_wp2_with fail;refine hI2.mono ?_;rintro e w4 ⟨rfl,hb4⟩;have hbl:=dA hbl hb4;clear hI2 hb4;go_wp2_with fail;go_ret;exact⟨rfl,hbl⟩
  | false =>
   rw [h34] at hI2 HR;clear h34;go_wp2_with fail;refine hI2.mono ?_;rintro e w4 ⟨rfl,hb4⟩;have hbl:=dA hbl hb4;clear c6 c7 hI2 hb hcap hx;obtain⟨b2,y,cap2,c6,hcap,hx,hb,c7⟩:=(HG.out.below hbl).kid HP.out.1 HP.out.2.2.1;obtain⟨b3,z,cap3,d6,dcap,dx,db,d7⟩:=(HG.out.below hbl).kid HP.out.1 HP.out.2.1;obtain⟨rfl,e3⟩:b3=b2∧z+1=y+3:=by
    rw [c6] at d6;simp only [Option.some.injEq,Value.slice.injEq,Addr.mk.injEq] at d6;omega
   obtain⟨kb,cp,e6⟩:=(HG.out.below hbl).lenc HP.out.2.2.2.1;have hI3:=is1 ((HG.out.below hbl).kv HP.out.2.2.2.2) 0 (xi:=0) rfl 5;rw [qE] at hI3;clear d6 dcap dx db e3 hb4;have g1:(((K x0).length:Int) != 1)=((K x0).length != 1):=GK _ 1;generalize (K x0).length=A at *;have yy:(0:Int) < (y:Int)+3:=by omega
   cases ha:(A != 1) with
   | true =>
    rw [ha] at HR g1;have hr:true=R:=HR.out.symm;subst hr;have ha2:¬ A=1:=by simpa using ha
    clear HR hI3 ha;go_wp2_with fail;go_ret;exact⟨rfl,hbl⟩
   | false =>
    have ha2:A=1:=by simpa using ha
    subst ha2;have hr:(!(q2.k==0))=R:=HR.out.symm;clear HR ha g1;go_wp2_with fail;refine hI3.mono ?_;rintro e w5 ⟨rfl,hb5⟩;have hbl:=dA hbl hb5;clear hI3 hb5;go_wp2_with fail;go_ret;exact⟨VC (by first|exact hr|rfl),hbl⟩
def b12 (l:List Pt) (K:Nat→List Nat) (i:Nat):Bool:=kd l i==some 66&&(decide (2 < (K (k0 K i)).length)||(wd l i==[58,61]&&!OD l K (k0 K i)))
theorem iV (hG:Gr l K U T nb w) (hW:Wf l K U T) (i:Nat) (hi:i < l.length):Calls Tryz.prog 53 #[.pointer (some ⟨nb i,0,none⟩)] w fun e w'=>e=.returned (.bool (b12 l K i))∧Below w.heap.size w w':=by
 obtain⟨p,hp⟩:=CC hi;obtain⟨R,hR⟩:∃ R,R=b12 l K i:=⟨_,rfl⟩;rw [← hR];unfold b12 at hR;rw [zB hp,QJ hp,yA] at hR;have hI:=is1 (hG.kv hp) 66 (xi:=66) rfl 5;rw [qE] at hI;have HR:=hid hR;have HG:=hid hG;clear hR hG hi;go_enter Tryz.func53,Tryz.ntmps53;cases hk:(p.k==66) with
 | false =>
  have hr:false=R:=by rw [HR.out,hk];rfl
  subst hr;rw [hk] at hI;clear hk HR hp;go_wp2_with fail;refine hI.mono ?_;rintro e w2 ⟨rfl,hbl⟩;clear hI;go_wp2_with fail;go_ret;exact⟨rfl,hbl⟩
 | true =>
  obtain⟨x0,q0,h0,hq0,hl0,hx0⟩:=hW.arg (m:=0) hp (by rw [beq_iff_eq.1 hk];decide);rw [hk] at hI;rw [hk,Bool.true_and,show k0 K i=x0 from hx0] at HR;have HP:=hid (And.intro hp (And.intro h0 (And.intro hl0 hq0)));clear hk hp h0 hq0 hx0;go_wp2_with fail;refine hI.mono ?_;rintro e w2 ⟨rfl,hbl⟩;have c3:=(HG.out.below hbl).wordc HP.out.1;obtain⟨b,x,cap,c6,hcap,hx,hb,c7⟩:=(HG.out.below hbl).kid HP.out.1 HP.out.2.1;obtain⟨kb,cp,e6⟩:=(HG.out.below hbl).lenc HP.out.2.2.2;have hN:=ZG (HG.out.below hbl) hW x0 HP.out.2.2.1;clear hI;generalize (K x0).length=A at *;by_cases ha:2 < A
  ·have hr:true=R:=by rw [HR.out,decide_eq_true ha,Bool.true_or]
   subst hr;have d1:decide ((2:Int) < (A:Int))=true:=decide_eq_true (by omega);clear HR hN;go_wp2_with fail;go_ret;exact⟨rfl,hbl⟩
  ·rw [decide_eq_false ha,Bool.false_or] at HR;have d1:decide ((2:Int) < (A:Int))=false:=decide_eq_false (by omega);have d2:decide (2 < A)=false:=decide_eq_false ha;clear ha;cases e4:(p.w==[58,61]) with
   | false =>
    rw [e4,Bool.false_and] at HR;have hr:false=R:=HR.out.symm;subst hr;clear HR hN;go_wp2_with fail;go_ret;exact⟨rfl,hbl⟩
   | true =>
    have e2:p.w=[58,61]:=beq_iff_eq.1 e4;rw [e4,Bool.true_and] at HR;rw [e2] at c3;clear e2 e4;go_wp2_with fail;refine hN.mono ?_;rintro e w3 ⟨rfl,hb3⟩;have hbl:=dA hbl hb3;clear hN hb3;go_wp2_with fail;go_ret;exact⟨VC (by rw [HR.out]),hbl⟩
def b14 (l:List Pt) (K:Nat→List Nat) (U:Nat→Option Nat) (T:Nat→Nat) (i:Nat):Bool :=
 kd l i==some 6&&(match U i with
  | none=>false
  | some j=>(kd l j==some 3||kd l j==some 4)&&(wd l j==[99,111,110,115,116]&&(T i==0&&kd l (k2 K i)==some 0)))
theorem vU (hG:Gr l K U T nb w) (hW:Wf l K U T) (i:Nat) (hi:i < l.length):Calls Tryz.prog 55 #[.pointer (some ⟨nb i,0,none⟩)] w fun e w'=>e=.returned (.bool (b14 l K U T i))∧Below w.heap.size w w':=by
 obtain⟨p,hp⟩:=CC hi;obtain⟨R,hR⟩:∃ R,R=b14 l K U T i:=⟨_,rfl⟩;rw [← hR];unfold b14 at hR;rw [zB hp,yA] at hR;have hI:=is1 (hG.kv hp) 6 (xi:=6) rfl 5;have HI2:=hid (fun w2 (hb2:Below w.heap.size w w2)=>is2 ((hG.below hb2).kvU hW hi) 3 4 (xi:=3) (yi:=4) rfl rfl 5);rw [qE] at hI;have HR:=hid hR;have HG:=hid hG;have HP0:=hid hp;clear hR hG;go_enter Tryz.func55,Tryz.ntmps55;cases hk:(p.k==6) with
 | false =>
  have hr:false=R:=by rw [HR.out,hk];rfl
  subst hr;rw [hk] at hI;clear hk HR hp;go_wp2_with fail;refine hI.mono ?_;rintro e w2 ⟨rfl,hbl⟩;clear hI;go_wp2_with fail;go_ret;exact⟨rfl,hbl⟩
 | true =>
  obtain⟨x2,q2,h2,hq2,hl2,hx2⟩:=hW.arg (m:=2) hp (by rw [beq_iff_eq.1 hk];decide);rw [hk] at hI;rw [hk,Bool.true_and,show k2 K i=x2 from hx2,zB hq2,yA] at HR;have HP:=hid (And.intro h2 hq2);clear hk hp h2 hq2 hx2;cases hU:U i with
  | none =>
   unfold uk at HI2;rw [hU] at HR HI2;have hr:false=R:=HR.out.symm;subst hr;have HU:=hid hU;rw [show isB ((none:Option Nat).bind (kd l)) [3,4]=false from rfl] at HI2;clear HR hU;go_wp2_with fail;refine hI.mono ?_;rintro e w2 ⟨rfl,hbl⟩;have c4:=(HG.out.below hbl).upc HP0.out;rw [HU.out] at c4;simp only [RF] at c4;have hI2:=HI2.out w2 hbl;clear hI;go_wp2_with fail;refine hI2.mono ?_;rintro e w3 ⟨rfl,hb3⟩;have hbl:=dA hbl hb3;clear hI2 hb3;go_wp2_with fail;go_ret;exact⟨rfl,hbl⟩
  | some j =>
   obtain⟨hji,hKT⟩:=hW.up i j hU;obtain⟨q,hq⟩:=CC (show j < l.length by omega);unfold uk at HI2;rw [hU] at HR HI2;rw [show (some j).bind (kd l)=some q.k from zB hq,oW] at HI2;simp only [zB hq,QJ hq,yA] at HR;have HU:=hid (And.intro hU hq);clear hU hq hKT;cases hk3:(q.k==3||q.k==4) with
   | false =>
    rw [hk3] at HR HI2;have hr:false=R:=HR.out.symm;subst hr;clear HR hk3;go_wp2_with fail;refine hI.mono ?_;rintro e w2 ⟨rfl,hbl⟩;have c4:=(HG.out.below hbl).upc HP0.out;rw [HU.out.1] at c4;simp only [RF] at c4;have hI2:=HI2.out w2 hbl;simp only [RF] at hI2;clear hI;go_wp2_with fail;refine hI2.mono ?_;rintro e w3 ⟨rfl,hb3⟩;have hbl:=dA hbl hb3;clear hI2 hb3;go_wp2_with fail;go_ret;exact⟨rfl,hbl⟩
   | true =>
    rw [hk3,Bool.true_and] at HR;rw [hk3] at HI2;clear hk3;go_wp2_with fail;refine hI.mono ?_;rintro e w2 ⟨rfl,hbl⟩;have c4:=(HG.out.below hbl).upc HP0.out;rw [HU.out.1] at c4;simp only [RF] at c4;have hI2:=HI2.out w2 hbl;simp only [RF] at hI2;clear hI;go_wp2_with fail;refine hI2.mono ?_;rintro e w3 ⟨rfl,hb3⟩;have hbl:=dA hbl hb3;have c4:=aA hb3 c4;have c5:=(HG.out.below hbl).nthc HP0.out;have d3:=(HG.out.below hbl).wordc HU.out.2;obtain⟨b,x,cap,c6,hcap,hx,hb,c7⟩:=(HG.out.below hbl).kid HP0.out HP.out.1;have hI3:=is1 ((HG.out.below hbl).kv HP.out.2) 0 (xi:=0) rfl 5;rw [qE] at hI3;clear hI2 hb3;cases e4:(q.w==[99,111,110,115,116]) with
    | false =>
     rw [e4,Bool.false_and] at HR;have hr:false=R:=HR.out.symm;subst hr;clear HR hI3;go_wp2_with fail;go_ret;exact⟨rfl,hbl⟩
    | true =>
     have e2:q.w=[99,111,110,115,116]:=beq_iff_eq.1 e4;rw [e4,Bool.true_and] at HR;rw [e2] at d3;clear e2 e4;generalize T i=ti at *;cases e5:(ti==0) with
     | false =>
      rw [e5,Bool.false_and] at HR;have hr:false=R:=HR.out.symm;subst hr;have e6:((ti:Int)==0)=false:=by rw [IP];exact e5
      have e7:¬ ti=0:=by simpa using e5
      clear HR hI3 e5;go_wp2_with fail;go_ret;exact⟨rfl,hbl⟩
     | true =>
      rw [e5,Bool.true_and] at HR;have e7:ti=0:=by simpa using e5
      subst e7;clear e5;go_wp2_with fail;refine hI3.mono ?_;rintro e w5 ⟨rfl,hb5⟩;have hbl:=dA hbl hb5;clear hI3 hb5;go_wp2_with fail;go_ret;exact⟨VC HR.out.symm,hbl⟩
end Shp
namespace Shp
open Go.RowKit
open Grd (Pt)
variable {w w':World}{l:List Pt}{K:Nat→List Nat}{U:Nat→Option Nat}{T nb:Nat→Nat}
def OP (K:Nat→List Nat) (i:Nat):Nat:=(K i).getD ((K i).length - 1) 0
def b13 (l:List Pt) (K:Nat→List Nat) (i:Nat):Bool :=
 (kd l i==some 5||(kd l i==some 22||kd l i==some 21))&&(kd l (OP K i)==some 27&&((wd l (OP K i)).headD 0 != 34&&(wd l (OP K i)).headD 0 != 96))
theorem oM (x:UInt8) (n:Nat) (h:n < 256):(((x.toNat:Nat):Int) != (n:Int))=(x != UInt8.ofNat n):=by
 rw [Bool.eq_iff_iff];simp only [bne_iff_ne,ne_eq];have e:(UInt8.ofNat n).toNat=n:=by rw [UInt8.toNat_ofNat'];omega
 constructor
 ·intro h1 h2;exact h1 (by rw [h2,e])
 ·intro h1 h2;exact h1 (UInt8.toNat_inj.1 (by rw [e];omega))
theorem rV (hG:Gr l K U T nb w) (hW:Wf l K U T) (i:Nat) (hi:i < l.length):Calls Tryz.prog 54 #[.pointer (some ⟨nb i,0,none⟩)] w fun e w'=>e=.returned (.bool (b13 l K i))∧Below w.heap.size w w':=by
 obtain⟨p,hp⟩:=CC hi;obtain⟨R,hR⟩:∃ R,R=b13 l K i:=⟨_,rfl⟩;rw [← hR];unfold b13 at hR;rw [zB hp,yA,yA,yA] at hR;have hI:=is3 (hG.kv hp) 5 22 21 (xi:=5) (yi:=22) (zi:=21) rfl rfl rfl 5;rw [bZ] at hI;have HR:=hid hR;have HG:=hid hG;clear hR hG;go_enter Tryz.func54,Tryz.ntmps54;cases hk:(p.k==5||(p.k==22||p.k==21)) with
 | false =>
  have hr:false=R:=by rw [HR.out,hk];rfl
  subst hr;rw [hk] at hI;clear hk HR hp;go_wp2_with fail;refine hI.mono ?_;rintro e w2 ⟨rfl,hbl⟩;clear hI;go_wp2_with fail;go_ret;exact⟨rfl,hbl⟩
 | true =>
  have hn2:2≤(K i).length:=by
   have h1:=(hW.ar i p hp).1;have h2:=hW.kids i p hp;simp only [Bool.or_eq_true,beq_iff_eq] at hk;have h3:(2:Int)≤(gD p.k.toNat).1:=by rcases hk with hk|hk|hk <;> rw [hk] <;> decide
   omega
  obtain⟨m,hm⟩:∃ m,(K i).length=m+1:=⟨(K i).length - 1,by omega⟩;obtain⟨x,q,hx,hq,_⟩:=hW.kidAt (i:=i) (m:=m) (by omega);have hlast:OP K i=x:=by unfold OP;rw [show (K i).length - 1=m from by omega];exact OO hx
  have hqw:q.k=27→q.w≠[]:=hW.lit x q hq;have hml:=hW.few i;have hlen:=hW.len;rw [hk] at hI;rw [hk,Bool.true_and,hlast,zB hq,QJ hq,yA] at HR;have HP:=hid (And.intro hp (And.intro hx hq));have HW:=hid hqw;have m1:m≤1000000000:=by omega
  obtain⟨M,hM⟩:∃ M,M=(K i).length:=⟨_,rfl⟩;have z1:IntKind.i64.wrap ((M:Int) - 1)=(m:Int):=by simp [IntKind.wrap,IntKind.bits,IntKind.signed];omega
  have z3:(m:Int) < (M:Int):=by omega
  have HM:=hid hM;clear hk hp hx hq hn2 hlast hqw hml hlen hm hM;go_wp2_with fail;refine hI.mono ?_;rintro e w2 ⟨rfl,hbl⟩;obtain⟨b,y,cap,c6,hcap,hx,hb,c7⟩:=(HG.out.below hbl).kid HP.out.1 HP.out.2.1;replace c6:w2.cell? ⟨nb i,6,none⟩=some (.slice (some ⟨b,0,none⟩) M cap):=by
   obtain⟨kb,cp,e6⟩:=(HG.out.below hbl).lenc HP.out.1;rw [← HM.out] at e6;rw [e6] at c6 ⊢;simp only [Option.some.injEq,Value.slice.injEq] at c6 ⊢;exact⟨c6.1,trivial,c6.2.2⟩
  have z2:(0:Int)≤(m:Int):=by omega
  clear hI hcap hx;go_wp2_with fail;go_big_quiet (fail);replace hbl:=Go.below_drewN hbl nq;have hI2:=is1 ((HG.out.below hbl).kv HP.out.2.2) 27 (xi:=27) rfl 5;rw [qE] at hI2;clear c6 c7;cases h27:(q.k==27) with
  | false =>
   rw [h27] at hI2 HR;have hr:false=R:=HR.out.symm;subst hr;clear h27 HR;go_wp2_with fail;refine hI2.mono ?_;rintro e w3 ⟨rfl,hb3⟩;have hbl:=dA hbl hb3;clear hI2 hb3;go_wp2_with fail;go_ret;exact⟨rfl,hbl⟩
  | true =>
   have hne:=HW.out (beq_iff_eq.1 h27);rw [h27,Bool.true_and] at HR;rw [h27] at hI2;clear h27;go_wp2_with fail;refine hI2.mono ?_;rintro e w3 ⟨rfl,hb3⟩;have hbl:=dA hbl hb3;have c3:=(HG.out.below hbl).wordc HP.out.2.2;clear hI2 hb3;cases hqw:q.w with
   | nil=>exact absurd hqw hne
   | cons ch r =>
    rw [hqw] at c3 HR;have HR2:R=(ch != 34&&ch != 96):=HR.out;have HR2:=hid HR2;clear HR hne hqw;go_wp2_with fail
    all_goals (go_ret;refine⟨VC ?_,hbl⟩)
    ·rename_i h;have h:((ch.toNat:Nat):Int)=34:=h;have e:ch=34:=UInt8.toNat_inj.1 (by show ch.toNat=34;omega);rw [HR2.out,e];rfl
    ·show ((((ch.toNat:Nat):Int) != ((34:Nat):Int))&&(((ch.toNat:Nat):Int) != ((96:Nat):Int)))=R
     rw [oM ch 34 (by decide),oM ch 96 (by decide),HR2.out]
     rfl
end Shp
end Go.Proofs.YtcjmpafkcmlhbaaGreatDoor
