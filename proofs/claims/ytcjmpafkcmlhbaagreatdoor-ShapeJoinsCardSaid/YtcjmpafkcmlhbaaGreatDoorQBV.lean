import Derived.Test.YtcjmpafkcmlhbaaGreatDoorQBT
import Derived.Test.YtcjmpafkcmlhbaaGreatDoorQBU
import Derived.Laws.EntriesVeiled
import Derived.Test.YtcjmpafkcmlhbaaGreatDoorQAV
namespace Go.Proofs.YtcjmpafkcmlhbaaGreatDoor
open _root_.Go.Lib(hid)
set_option linter.all false
set_option maxHeartbeats 40000000
set_option maxRecDepth 100000
namespace Shp
open Go.RowKit
open Grd (Pt Fo)
variable {w w' w0:World}{l:List Pt}
abbrev Kf (l:List Pt):=(bld l l.length).K
abbrev Uf (l:List Pt):=(bld l l.length).U
abbrev Tf (l:List Pt):=(bld l l.length).T
theorem WR (l:List Pt):∀ i j:Nat,i≤j→(bld l i).U j=none
 | 0,_,_=>rfl
 | i+1,j,h=>by
  have ih:=WR l i j (by omega)
  show (sI l (bld l i) i).U j=none
  unfold sI;split <;> (simp only [upd];rw [if_neg (by omega)];exact ih)
theorem PU:AC 27 []=false:=by decide +kernel
theorem PY (h:fF l=true) (hl:l.length≤1000000000) (hw:∀ p∈l,p.w.length≤1048576):Wf l (Kf l) (Uf l) (Tf l):=by
 unfold fF at h;rw [Bool.and_eq_true] at h;obtain⟨hwell,hall⟩:=h;obtain⟨q,k,hq,hc,hg⟩:=Grd.VP l hwell;obtain⟨hB,hK⟩:=SV hq hc hg;obtain⟨l1,l2,l3,l4⟩:=YJ l l.length;have hat:∀ (i:Nat) (p:Pt),l[i]?=some p→i < l.length∧nk l i=p.n∧AE p=true:=fun i p hp=>⟨(List.getElem?_eq_some_iff.1 hp).1,by unfold nk;rw [hp];rfl,List.all_eq_true.1 hall p (List.mem_of_getElem? hp)⟩
 refine⟨hl,fun i p hp=>hw p (List.mem_of_getElem? hp),fun i p hp=>?_,fun i k hk=>l2 i k hk,fun i p hp=>?_,fun i p hp hk=>?_,fun i j hu=>?_,fun i hu=>?_,fun i=>l4 i,fun i j k hk=>hB.nth i j k hk⟩
 ·obtain⟨h1,h2,_⟩:=hat i p hp;rw [hK i h1,h2]
 ·obtain⟨_,_,h3⟩:=hat i p hp;unfold AE at h3;simp only [Bool.and_eq_true,Bool.not_eq_true',decide_eq_false_iff_not,Bool.and_eq_false_iff] at h3;refine⟨by omega,fun hf=>?_⟩;rcases h3.1.2 with h|h
  ·omega
  ·rw [hf] at h;cases h
 ·obtain⟨_,_,h3⟩:=hat i p hp;intro e;unfold AE at h3;simp only [Bool.and_eq_true] at h3;have h4:=h3.2;rw [hk,e] at h4;exact absurd h4 (by rw [show ((27:UInt8).toNat:Int)=27 from rfl,PU];decide)
 ·rcases Nat.lt_or_ge i l.length with h|h
  ·exact hB.up i j h hu
  ·rw [Uf,WR l _ _ h] at hu;cases hu
 ·rcases Nat.lt_or_ge i l.length with h|h
  ·exact .inl (hB.top i h hu)
  ·exact .inr h
theorem TY {op:List Nat}{n:Nat}{nb:Nat→Nat}{kv:Nat→Value}{v3 v4:Value} (h:BI l w0 op (Uf l) (Tf l) (Kf l) l.length n nb kv v3 v4 w):Gr l (Kf l) (Uf l) (Tf l) nb w:=by
 refine⟨fun i p hp=>?_⟩;have hi:=(List.getElem?_eq_some_iff.1 hp).1;obtain⟨h1,h2⟩:=h.node i p hi hp;have hr:=h.row i hi;obtain⟨kb,cap,e⟩:=Grd.ID hr;rw [e] at hr;refine⟨kb,cap,by rw [h1,e];rfl,Grd.IK hr,?_⟩;cases hk:Kf l i with
 | nil=>exact .inl rfl
 | cons x r =>
  refine .inr ?_;have hx:(jD nb (Kf l i))[0]?=some (.pointer (some ⟨nb x,0,none⟩)):=by rw [hk];rfl
  obtain⟨b,rfl,_,hb,_⟩:=GA hr hx;refine⟨b,rfl,hb,fun j k hjk=>?_⟩;have hx2:(jD nb (Kf l i))[j]?=some (.pointer (some ⟨nb k,0,none⟩)):=by
   unfold jD;rw [hk,List.getElem?_map,hjk];rfl
  obtain⟨b',e',_,_,hc⟩:=GA hr hx2;cases e';exact hc
def LP (l:List Pt) (i:Nat):Nat→Bool
 | 0=>b1 l (Uf l) (Tf l) i|1=>b2 l i|2=>lI l (Kf l) (Uf l) (Tf l) i|3=>b4 l (Kf l) (Uf l) (Tf l) i|4=>b5 l (Kf l) i
 | 5=>b6 l (Kf l) i|6=>LK l (Kf l) i|7=>b8 l (Kf l) (Uf l) (Tf l) i|8=>b9 l (Kf l) i|9=>b10 l (Kf l) i
 | 10=>b11 l (Kf l) i|11=>b12 l (Kf l) i|12=>b13 l (Kf l) i|13=>b14 l (Kf l) (Uf l) (Tf l) i|14=>b15 l (Kf l) i|_=>false
def MP:List Nat:=[38,40,41,42,43,44,46,47,48,49,50,53,54,55,56]
theorem wQ:Calls Tryz.prog 26 #[] w fun e w'=>∃ b,e=.returned (.slice (some ⟨b,0,none⟩) 15 15)∧b < w'.heap.size∧w.heap.size≤b∧(∀ k,k < 15→w'.cell? ⟨b,k*2,none⟩=some (.int .u8 ((k:Int)+1))∧w'.cell? ⟨b,k*2+1,none⟩=some (.func (.func (MP.getD k 0)) #[] #[]))∧Below w.heap.size w w':=by
 go_enter Tryz.func26,Tryz.ntmps26;go_wp2_with fail;go_ret;refine⟨w.heap.size,rfl,by simp,Nat.le_refl _,fun k hk=>?_,(Below.refl _ _).alloc (Nat.le_refl _) _⟩;unfold World.cell?;simp only [];rw [heap_alloc_new];rcases (show k=0∨k=1∨k=2∨k=3∨k=4∨k=5∨k=6∨k=7∨k=8∨k=9∨k=10∨k=11∨k=12∨k=13∨k=14 from by omega) with rfl|rfl|rfl|rfl|rfl|rfl|rfl|rfl|rfl|rfl|rfl|rfl|rfl|rfl|rfl <;> exact⟨rfl,rfl⟩
end Shp
namespace Shp
open Go.RowKit
open Grd (Pt tB)
variable {w w' w0 w1:World}{l:List Pt}
theorem Tryz.infoFl:(Tryz.prog.info? 41).map (fun i=>(i.zero,i.size,i.bytes))=some (some (.agg #[.int .u8 0,.int .i64 0]),2,16):=by kernel_rfl
def iB (l:List Pt) (i r:Nat):List (Nat × Nat):=((List.range r).filter (LP l i)).map fun k=>(k+1,i)
def AA (l:List Pt) (i:Nat):List (Nat × Nat):=(List.range i).flatMap fun j=>iB l j 15
def flV (x:Nat × Nat):List Value:=[.int .u8 (x.1:Int),.int .i64 (x.2:Int)]
def EI (l:List (Nat × Nat)):List Value:=l.flatMap flV
theorem QT (a:List (Nat × Nat)) (x:Nat × Nat):EI (a++[x])=EI a++flV x:=by simp [EI]
theorem dJ (l:List Pt) (i r:Nat):iB l i (r+1)=iB l i r++(if LP l i r then [(r+1,i)] else []):=by
 unfold iB;rw [List.range_succ,List.filter_append,List.map_append];cases h:LP l i r <;> simp [h]
theorem FJ (l:List Pt) (i:Nat):AA l (i+1)=AA l i++iB l i 15:=by
 unfold AA;rw [List.range_succ,List.flatMap_append];simp
theorem mK (l:List Pt) (i r:Nat):(iB l i r).length≤r:=by
 unfold iB;rw [List.length_map];exact Nat.le_trans (List.length_filter_le _ _) (by simp)
theorem wK (l:List Pt):∀ i,(AA l i).length≤15*i
 | 0=>Nat.le_refl _
 | i+1=>by
  rw [FJ,List.length_append];have:=wK l i;have:=mK l i 15;omega
theorem WS (a:Option Addr) (cap:Nat) (hp:tB w a l) (hl:l.length≤100000000) (hw:∀ p∈l,p.w.length≤1048576) (hT:NC w) (hc:fF l=false) :
  Calls Tryz.prog 14 #[.slice a l.length cap] w fun e w'=>e=.returned (.tuple #[.slice none 0 0,.int .i64 8])∧Below w.heap.size w w':=by
 have hC:=qF a cap l (by omega) hp hw hT;rw [hc,if_neg (by decide)] at hC;clear hc hp hw hT;go_enter Tryz.func14,Tryz.ntmps14;go_wp2_with fail;refine hC.mono ?_;rintro e w2 ⟨rfl,hb2⟩;clear hC;go_wp2_with fail;go_ret2;exact⟨rfl,hb2⟩
theorem kP (a:Option Addr) (cap:Nat) (hp:tB w a l) (hl:l.length≤100000000) (hw:∀ p∈l,p.w.length≤1048576) (hT:NC w) (hc:fF l=true) :
  Calls Tryz.prog 14 #[.slice a l.length cap] w fun e w'=>∃ vo,e=.returned (.tuple #[vo,.int .i64 0])∧w'.ownsRow w.heap.size 41 2 vo (AA l l.length).length (EI (AA l l.length))∧Below w.heap.size w w':=by
 have hC:=qF a cap l (by omega) hp hw hT;rw [hc,if_pos rfl] at hC;have HW:=hid (PY hc (by omega) hw);have h0:0 < l.length:=by
  rcases Nat.eq_zero_or_pos l.length with h|h
  ·rw [List.eq_nil_of_length_eq_zero h] at hc;exact absurd hc (by decide)
  ·exact h
 have HP:=hid (And.intro hp h0);obtain⟨n,hn⟩:∃ n,n=l.length:=⟨_,rfl⟩;have HN:=hid hn;clear hc hp hw hT h0;go_enter Tryz.func14,Tryz.ntmps14;go_wp2_with fail;refine hC.mono ?_;rintro e w2 ⟨rfl,hb2⟩;clear hC;go_wp2_with fail;refine (wQ (w:=w2)).mono ?_;rintro e w3 ⟨tb,rfl,htb,htl,hrc,hb3⟩;have HB:=hid (zQ (w:=w3) a cap ((HP.out.1.later hb2).later hb3) HP.out.2 (by omega));have HRC:=hid (And.intro htb hrc);clear hrc htl;go_wp2_with fail;refine HB.out.mono ?_;rintro e w4 ⟨v3,v4,nb,kv,rfl,hBI⟩;clear HB;have HBI:=hid hBI;have HBL:=hid (dA hb2 hb3);clear hBI hb2 hb3;obtain⟨A,nc,rfl,_⟩:=HBI.out.all.form (show 0 < l.length from HP.out.2);have HG:=hid (TY HBI.out);have HA:Hid (∀ i,i < n→w4.cell? ⟨A,i,none⟩=some (.pointer (some ⟨nb i,0,none⟩))):=hid (fun i hi=>by
  have h1:=HBI.out.all.cellAt i (by omega);rw [h1];unfold yM;rw [List.getElem?_map,List.getElem?_range (by omega)];simp only [Option.map_some];rw [if_pos (by omega)])
 have hAl:=(HBI.out.all.lt A rfl).2;have HTB:Hid (∀ k,k < 15→w4.cell? ⟨tb,k*2,none⟩=some (.int .u8 ((k:Int)+1))∧w4.cell? ⟨tb,k*2+1,none⟩=some (.func (.func (MP.getD k 0)) #[] #[])):=hid (fun k hk=>⟨aA HBI.out.bel (HRC.out.2 k hk).1,aA HBI.out.bel (HRC.out.2 k hk).2⟩);have htb4:tb < w4.heap.size:=Nat.lt_of_lt_of_le HRC.out.1 HBI.out.bel.size;have HBW:=hid (dA HBL.out HBI.out.bel);clear HRC HBL HBI;rw [← hn];have hnl:n≤100000000:=by omega
 clear hn hl;obtain⟨i0,hi,hz0,hz1,hz2⟩:=info_parts Tryz.infoFl;go_wp2_with fail
 go_loopg [5,9,22] n (fun q v5 v9 v22 wr=>∃ i:Nat,v22=.int .i64 (i:Int)∧i+q=n∧wr.ownsRow w4.heap.size 41 2 v5 (AA l i).length (EI (AA l i))∧Below w4.heap.size w4 wr)
 case atStart=>exact⟨0,rfl,by omega,World.ownsRow_nil _ _ _ _,Below.refl _ _⟩
 case round =>
  obtain⟨i,rfl,hq,ho,hbl⟩:=hrel;obtain⟨gko,hgo⟩:∃ x,x=gk:=⟨_,rfl⟩;subst hgo;by_cases hin:i < n
  ·have c1:=eN hbl (p:=⟨A,i,none⟩) hAl (HA.out i hin);have j0:(0:Int)≤(i:Int):=by omega
   have j1:(i:Int) < (n:Int):=by omega
   have j2:decide (i < n)=true:=decide_eq_true hin;have j3:i < 100000000:=by omega
   have HQ:=hid hq;have HO:Hid (wr.ownsRow w4.heap.size 41 2 u5 (AA l i++iB l i 0).length (EI (AA l i++iB l i 0))):=hid (by rw [show iB l i 0=[] from rfl,List.append_nil];exact ho);have HBB:=hid hbl;clear hq ho hbl;go_wp2_with fail;clear c1 j0 j1
   go_loopg [5,28] 15 (fun q v5 v28 wx=>∃ r:Nat,v28=.int .i64 (r:Int)∧r+q=15∧wx.ownsRow w4.heap.size 41 2 v5 (AA l i++iB l i r).length (EI (AA l i++iB l i r))∧Below w4.heap.size w4 wx)
   case atStart=>exact⟨0,rfl,rfl,HO.out,HBB.out⟩
   case round =>
    obtain⟨r,rfl,hq2,ho,hbl⟩:=hrel;by_cases hr:r < 15
    ·have c1:=eN hbl (p:=⟨tb,r*2,none⟩) htb4 (HTB.out r hr).1;have c2:=eN hbl (p:=⟨tb,r*2+1,none⟩) htb4 (HTB.out r hr).2;have r0:(0:Int)≤(r:Int):=by omega
     have r1:(r:Int) < 15:=by omega
     have r2:decide (r < 15)=true:=decide_eq_true hr;have HQ2:=hid hq2;have HO2:=hid ho;have HBB2:=hid hbl;clear hq2 ho hbl;go_upto_region 13 with fail;obtain⟨O,hO⟩:∃ O,O=Obj.cells #[.int .u8 ((r:Int)+1),.func (.func (MP.getD r 0)) #[] #[]] 74 (0,0):=⟨_,rfl⟩;have hOe:Obj.cells #[Value.int IntKind.u8 ((r:Int)+1),Value.func (Fn.func (MP[r]?.getD 0)) #[] #[]] 74=O:=by rw [hO,List.getD_eq_getElem?_getD]
     rw [hOe];have hbx:=heap_alloc_new wr O;have hbO:=(Below.refl wr.heap.size wr).alloc (Nat.le_refl _) O;obtain⟨W,hW⟩:∃ W,W=wr.alloc O:=⟨_,rfl⟩;rw [← hW] at hbx hbO ⊢;have q0:W.cell? ⟨wr.heap.size,0,none⟩=some (.int .u8 ((r:Int)+1)):=by unfold World.cell?;rw [hbx,hO];rfl
     have q1:W.cell? ⟨wr.heap.size,1,none⟩=some (.func (.func (MP.getD r 0)) #[] #[]):=by unfold World.cell?;rw [hbx,hO];rfl
     have HWW:=hid (And.intro (dA HBB2.out hbO) hbO);have HR:=hid hr;clear hW hbx hbO hO hOe c1 c2 r0 r1 r2
     go_cut [35] from 32 to 35 (fun v35 wx=>v35=.bool (LP l i r)∧Below W.heap.size W wx)
     case first =>
      clear q0 hnl i0 hi hz0 hz1 hz2 j2 j3 htb4;have hGW:=HG.out.below HWW.out.1;have hil:i < l.length:=by have:=HN.out;omega
      clear HQ HQ2 HBB HBB2 HO HO2;rcases (show r=0∨r=1∨r=2∨r=3∨r=4∨r=5∨r=6∨r=7∨r=8∨r=9∨r=10∨r=11∨r=12∨r=13∨r=14 from by omega) with rfl|rfl|rfl|rfl|rfl|rfl|rfl|rfl|rfl|rfl|rfl|rfl|rfl|rfl|rfl
      ·have q1:W.cell? ⟨wr.heap.size,1,none⟩=some (.func (.func 38) #[] #[]):=q1;have hcall:=rX hGW HW.out i hil;go_wp2_with fail;refine hcall.mono ?_;rintro e w9 ⟨rfl,hb9⟩;clear hcall;go_wp2_with fail
       go_meet
       exact⟨rfl,hb9⟩
      ·have q1:W.cell? ⟨wr.heap.size,1,none⟩=some (.func (.func 40) #[] #[]):=q1;have hcall:=aX hGW i hil;go_wp2_with fail;refine hcall.mono ?_;rintro e w9 ⟨rfl,hb9⟩;clear hcall;go_wp2_with fail
       go_meet
       exact⟨rfl,hb9⟩
      ·have q1:W.cell? ⟨wr.heap.size,1,none⟩=some (.func (.func 41) #[] #[]):=q1;have hcall:=uM hGW HW.out i hil;go_wp2_with fail;refine hcall.mono ?_;rintro e w9 ⟨rfl,hb9⟩;clear hcall;go_wp2_with fail
       go_meet
       exact⟨rfl,hb9⟩
      ·have q1:W.cell? ⟨wr.heap.size,1,none⟩=some (.func (.func 42) #[] #[]):=q1;have hcall:=mX hGW HW.out i hil;go_wp2_with fail;refine hcall.mono ?_;rintro e w9 ⟨rfl,hb9⟩;clear hcall;go_wp2_with fail
       go_meet
       exact⟨rfl,hb9⟩
      ·have q1:W.cell? ⟨wr.heap.size,1,none⟩=some (.func (.func 43) #[] #[]):=q1;have hcall:=JW hGW HW.out i hil;go_wp2_with fail;refine hcall.mono ?_;rintro e w9 ⟨rfl,hb9⟩;clear hcall;go_wp2_with fail
       go_meet
       exact⟨rfl,hb9⟩
      ·have q1:W.cell? ⟨wr.heap.size,1,none⟩=some (.func (.func 44) #[] #[]):=q1;have hcall:=vX hGW HW.out i hil;go_wp2_with fail;refine hcall.mono ?_;rintro e w9 ⟨rfl,hb9⟩;clear hcall;go_wp2_with fail
       go_meet
       exact⟨rfl,hb9⟩
      ·have q1:W.cell? ⟨wr.heap.size,1,none⟩=some (.func (.func 46) #[] #[]):=q1;have hcall:=wP hGW HW.out i hil;go_wp2_with fail;refine hcall.mono ?_;rintro e w9 ⟨rfl,hb9⟩;clear hcall;go_wp2_with fail
       go_meet
       exact⟨rfl,hb9⟩
      ·have q1:W.cell? ⟨wr.heap.size,1,none⟩=some (.func (.func 47) #[] #[]):=q1;have hcall:=kX hGW HW.out i hil;go_wp2_with fail;refine hcall.mono ?_;rintro e w9 ⟨rfl,hb9⟩;clear hcall;go_wp2_with fail
       go_meet
       exact⟨rfl,hb9⟩
      ·have q1:W.cell? ⟨wr.heap.size,1,none⟩=some (.func (.func 48) #[] #[]):=q1;have hcall:=CW hGW HW.out i hil;go_wp2_with fail;refine hcall.mono ?_;rintro e w9 ⟨rfl,hb9⟩;clear hcall;go_wp2_with fail
       go_meet
       exact⟨rfl,hb9⟩
      ·have q1:W.cell? ⟨wr.heap.size,1,none⟩=some (.func (.func 49) #[] #[]):=q1;have hcall:=mW hGW HW.out i hil;go_wp2_with fail;refine hcall.mono ?_;rintro e w9 ⟨rfl,hb9⟩;clear hcall;go_wp2_with fail
       go_meet
       exact⟨rfl,hb9⟩
      ·have q1:W.cell? ⟨wr.heap.size,1,none⟩=some (.func (.func 50) #[] #[]):=q1;have hcall:=cV hGW HW.out i hil;go_wp2_with fail;refine hcall.mono ?_;rintro e w9 ⟨rfl,hb9⟩;clear hcall;go_wp2_with fail
       go_meet
       exact⟨rfl,hb9⟩
      ·have q1:W.cell? ⟨wr.heap.size,1,none⟩=some (.func (.func 53) #[] #[]):=q1;have hcall:=iV hGW HW.out i hil;go_wp2_with fail;refine hcall.mono ?_;rintro e w9 ⟨rfl,hb9⟩;clear hcall;go_wp2_with fail
       go_meet
       exact⟨rfl,hb9⟩
      ·have q1:W.cell? ⟨wr.heap.size,1,none⟩=some (.func (.func 54) #[] #[]):=q1;have hcall:=rV hGW HW.out i hil;go_wp2_with fail;refine hcall.mono ?_;rintro e w9 ⟨rfl,hb9⟩;clear hcall;go_wp2_with fail
       go_meet
       exact⟨rfl,hb9⟩
      ·have q1:W.cell? ⟨wr.heap.size,1,none⟩=some (.func (.func 55) #[] #[]):=q1;have hcall:=vU hGW HW.out i hil;go_wp2_with fail;refine hcall.mono ?_;rintro e w9 ⟨rfl,hb9⟩;clear hcall;go_wp2_with fail
       go_meet
       exact⟨rfl,hb9⟩
      ·have q1:W.cell? ⟨wr.heap.size,1,none⟩=some (.func (.func 56) #[] #[]):=q1;have hcall:=QV hGW HW.out i hil;go_wp2_with fail;refine hcall.mono ?_;rintro e w9 ⟨rfl,hb9⟩;clear hcall;go_wp2_with fail
       go_meet
       exact⟨rfl,hb9⟩
     case rest =>
      obtain⟨rfl,hbc⟩:=hcut;clear q1;have hbw:=dA HWW.out.1 hbc;have HBC:=hid hbw;have q0:=aA hbc q0;obtain⟨pi,hpi⟩:=CC (show i < l.length by have:=HN.out;omega);obtain⟨_,_,_,_,_,_,q3,_⟩:=(HG.out.below hbw).cells hpi;have hown:=bF HO2.out (dA HWW.out.2 hbc);have hwl:wr.heap.size < wc.heap.size:=World.block_lt_of_cell? wc ⟨wr.heap.size,0,none⟩ q0;have hnl4:nb i < w4.heap.size:=by
       obtain⟨_,_,h,_⟩:=HG.out.cells hpi;exact h
      have HOWN:=hid (And.intro hown HO2.out);obtain⟨oa,oc,rfl⟩:=Grd.ID hown;clear hown hbc HWW;cases hrb:LP l i r with
      | false =>
       have HRB:=hid hrb;clear hrb;go_wp2_with fail;go_roundg (gk - 1)
       case measure=>have:=HQ2.out;omega
       case rel =>
        refine⟨r+1,by simp,by have:=HQ2.out;omega,?_,HBC.out⟩;have h1:=HOWN.out.1;rw [dJ,HRB.out,if_neg (by decide),List.append_nil];exact h1
      | true =>
       have HRB:=hid hrb;have hown:=HOWN.out.1;have hs0:w4.heap.size≤wc.heap.size:=HBC.out.size;have hn0:(Value.slice oa (AA l i++iB l i r).length oc).ownBlock≠some wr.heap.size:=fun e=>by have:=(HOWN.out.2.lt _ e).2;omega
       have hn3:(Value.slice oa (AA l i++iB l i r).length oc).ownBlock≠some (nb i):=fun e=>by have:=(HOWN.out.2.lt _ e).1;omega
       have hbd:=((Below.refl wc.heap.size wc).alloc (Nat.le_refl _) (Obj.cells #[.int .u8 ((r:Int)+1),.int .i64 (i:Int)] 41)).drew;have hal0:∀ o:Obj,(wc.alloc o).drew.cell? ⟨wr.heap.size,0,none⟩=wc.cell? ⟨wr.heap.size,0,none⟩:=fun o=>World.cell?_of_block (a:=⟨wr.heap.size,0,none⟩) (((Below.refl wc.heap.size wc).alloc (Nat.le_refl _) o).drew.block _ hwl)
       have hal3:∀ o:Obj,(wc.alloc o).drew.cell? ⟨nb i,3,none⟩=wc.cell? ⟨nb i,3,none⟩:=fun o=>World.cell?_of_block (a:=⟨nb i,3,none⟩) (((Below.refl wc.heap.size wc).alloc (Nat.le_refl _) o).drew.block _ (by omega))
       have HC0:Hid (∀ w7:World,((wc.alloc (Obj.cells #[.int .u8 ((r:Int)+1),.int .i64 (i:Int)] 41)).drew).grownBy w7 (Value.slice oa (AA l i++iB l i r).length oc).ownBlock→w7.cell? ⟨wr.heap.size,0,none⟩=some (.int .u8 ((r:Int)+1))):=hid (fun w7 hg=>((hg.cell_far ⟨wr.heap.size,0,none⟩ (by simp;omega) (Ne.symm hn0)).trans (hal0 _)).trans q0);have HC1:Hid (∀ w7:World,((wc.alloc (Obj.cells #[.int .u8 ((r:Int)+1),.int .i64 (i:Int)] 41)).drew).grownBy w7 (Value.slice oa (AA l i++iB l i r).length oc).ownBlock→w7.cell? ⟨nb i,3,none⟩=some (.int .i64 (i:Int))):=hid (fun w7 hg=>((hg.cell_far ⟨nb i,3,none⟩ (by simp;omega) (Ne.symm hn3)).trans (hal3 _)).trans q3);have HC2:Hid (∀ w7:World,((wc.alloc (Obj.cells #[.int .u8 ((r:Int)+1),.int .i64 (i:Int)] 41)).drew).grownBy w7 (Value.slice oa (AA l i++iB l i r).length oc).ownBlock→Below w4.heap.size w4 w7):=hid (fun w7 hg=>GD (xL (X:=sJ (Value.slice oa (AA l i++iB l i r).length oc)) hg (fun k hk=>by unfold sJ;rw [hk];simp)) (dA HBC.out hbd) (fun x hx=>by
        unfold sJ at hx;cases e:(Value.slice oa (AA l i++iB l i r).length oc).ownBlock with
        | none=>rw [e] at hx;cases hx
        | some y=>rw [e] at hx;simp at hx;subst hx;exact (HOWN.out.2.lt _ e).1))
       have hfl:(AA l i++iB l i r).length≤15*i+15:=by
        rw [List.length_append];have:=wK l i;have:=mK l i r;omega
       obtain⟨FL,hFL⟩:∃ FL,FL=(AA l i++iB l i r).length:=⟨_,rfl⟩;rw [← hFL] at hown hfl HC0 HC1 HC2 ⊢;have HFL:=hid hFL;clear hFL hrb hn0 hn3 hbd;go_wp2_with fail;refine wp_region_held_drew (S:=fun w'=>w'.cell? ⟨wr.heap.size,0,none⟩=some (.int .u8 ((r:Int)+1))∧w'.cell? ⟨nb i,3,none⟩=some (.int .i64 (i:Int))) (by kernel_rfl) ?_ (fun hHeld=>?_)
       ·((try dsimp only);(first|exact⟨q0,q3⟩|exact⟨(hal0 _).trans q0,(hal3 _).trans q3⟩|exact⟨p0,p1⟩))
       refine tk 0 ?_;try simp only [Act.put,ls]
       refine tk 1 ?_;try simp only [Act.put,ls]
       refine tk 2 ?_;try simp only [Act.put,ls]
       refine tk 3 ?_;try simp only [Act.put,ls]
       refine tk 4 ?_;try simp only [Act.put,ls]
       refine tk 5 ?_;try simp only [Act.put,ls]
       refine tk 6 ?_;try simp only [Act.put,ls]
       refine tk 7 ?_;try simp only [Act.put,ls]
       refine wpAnyH_ready (rs:=[8]) (by kernel_rfl) (by simp) (AllReadyH.cons (o:=?_) ?_ (fun K hK=>?_) AllReadyH.nil)
       rotate_left
       ·(first|(simp only [List.getElem?_toArray,List.getElem?_cons_succ,List.getElem?_cons_zero];done)|(simp only [List.getElem?_toArray,List.getElem?_cons_succ,List.getElem?_cons_zero];exact rfl))
       go_simp;go_wp2_with fail;refine hK.out _ _ ?_ (fun hHeld8=>?_)
       ·((try dsimp only);(first|exact⟨q0,q3⟩|exact⟨(hal0 _).trans q0,(hal3 _).trans q3⟩|exact⟨p0,p1⟩))
       clear hK K
       try simp only [Act.put,ls]
       refine wpAnyH_ready (rs:=[9]) (by kernel_rfl) (by simp) (AllReadyH.cons (o:=?_) ?_ (fun K hK=>?_) AllReadyH.nil)
       rotate_left
       ·(first|(simp only [List.getElem?_toArray,List.getElem?_cons_succ,List.getElem?_cons_zero];done)|(simp only [List.getElem?_toArray,List.getElem?_cons_succ,List.getElem?_cons_zero];exact rfl))
       refine step_append_lies _ (by rfl) _ _ _ (by rfl) w4.heap.size 41 i0 _ 2 16 Tryz.underlying33 hi hz0 hz1 hz2 rfl (by omega) (.slice oa FL oc) FL (EI (AA l i++iB l i r)) (by rfl) ((hown.alloc _).drew) ⟨wc.heap.size,0,none⟩ 1 1 [.int .u8 ((r:Int)+1),.int .i64 (i:Int)] (by rfl) (by rfl) (World.news_of_block (cs:=#[.int .u8 ((r:Int)+1),.int .i64 (i:Int)]) (t:=41) (fr:=(0,0)) (heap_alloc_new wc _)) (by simp [Value.oneCell']) (by omega) (by unfold maxLen;omega) (by omega) (by simp;omega) (wc.heap.size+1) (by simp) ?_;intro gg cap2 w7 hown2 hgrow2 hat2 hlt2;have p0:w7.cell? ⟨wr.heap.size,0,none⟩=some (.int .u8 ((r:Int)+1)):=HC0.out w7 hgrow2;have p1:w7.cell? ⟨nb i,3,none⟩=some (.int .i64 (i:Int)):=HC1.out w7 hgrow2;have HPS:=hid (And.intro hown2 (HC2.out w7 hgrow2));refine hK.out _ _ ?_ (fun hHeld9=>?_)
       ·((try dsimp only);(first|exact⟨q0,q3⟩|exact⟨(hal0 _).trans q0,(hal3 _).trans q3⟩|exact⟨p0,p1⟩))
       clear hK K
       try simp only [Act.put,ls]
       refine tk 10 ?_;try simp only [Act.put,ls]
       refine wpAnyH_done (by kernel_rfl) ?_ _;go_wp2_with fail;go_roundg (gk - 1)
       case measure=>have:=HQ2.out;omega
       case rel =>
        refine⟨r+1,by simp,by have:=HQ2.out;omega,?_,HPS.out.2⟩;have h1:=HPS.out.1;rw [dJ,HRB.out,if_pos rfl,← List.append_assoc,QT,List.length_append,← HFL.out];exact h1
    ·have hr15:r=15:=by omega
     have r2:decide (r < 15)=false:=decide_eq_false hr;have HO3:=hid ho;have HB3:=hid hbl;subst hr15;clear ho hbl hq2 hr;go_wp2_with fail;go_roundg (gko - 1)
     case measure=>have:=HQ.out;omega
     case rel=>exact⟨i+1,by simp,by have:=HQ.out;omega,by rw [FJ];exact HO3.out,HB3.out⟩
  ·have hil:i=n:=by omega
   have j2:decide (i < n)=false:=decide_eq_false hin;have HO:=hid ho;have HBB:=hid hbl;clear ho hbl hq hin;go_wp2_with fail;go_ret2;refine⟨u5,rfl,?_,dA HBW.out HBB.out⟩;have h1:=HO.out;rw [hil,HN.out] at h1;exact h1.mono (by have:=HBW.out.size;omega)
end Shp
end Go.Proofs.YtcjmpafkcmlhbaaGreatDoor
