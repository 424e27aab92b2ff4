import Derived.Test.YtfmpphplbdojbaaGreatDoorZMB
namespace Go.Proofs.YtfmpphplbdojbaaGreatDoor
open _root_.Go.Lib(hid)
set_option linter.all false
set_option maxHeartbeats 40000000
set_option maxRecDepth 100000
namespace Ck
open Go.RowKit
open Grd (Pt Fo tB)
open Rnd (pQ2 DQ2 AQ2 EQ2 tQ2)
variable {w w':World}
theorem WQ9 (a ra:Option Addr) (cap rc:Nat) (l:List Pt) (R:List (List UInt8)) (hl:l.length<=3000) (hp:tB w a l) (hr:WsO w ra R) (hw:∀ p∈l,p.w.length<=1048576) (hT:NC w) (hs:R.length=l.length->EQ2 l+tQ2 (GQ4 R) 0 l.length<=1000000000) :
  Calls Tryz.prog 12 #[.slice a l.length cap,.slice ra R.length rc] w fun e w'=>e=.returned (yQ9 l R)/\Below w.heap.size w w':=by
 have HC:=hid (qF a cap l Cf hp hw hT);unfold yQ9;cases hc:fF l with
 | false =>
  rw [hc] at HC;clear hp hr hw hs hc hT;generalize R.length=rl at *;generalize l.length=ll at *;go_enter Tryz.func12,Tryz.ntmps12;go_wp2_with fail;refine HC.out.mono ?_;rintro e w2 ⟨rfl,hb⟩;simp only [if_neg Bool.false_ne_true];go_wp2_with fail;go_ret2;exact⟨rfl,hb⟩
 | true =>
  rw [hc] at HC;by_cases hR:R.length=l.length
  ·rw [if_pos rfl,if_pos hR,hR];obtain⟨lb,lo,rfl,hlb,hlp⟩:=hp.resolve_left (by rintro rfl;exact absurd hc Ch);have hl0:l≠[]:=by rintro rfl;exact absurd hc Ch
   obtain⟨rb,ro,rfl,hrb,hrp⟩:=hr.resolve_left (by rintro rfl;exact hl0 (Z' hR.symm));have HW:=hid (fun (w1:World) (hb:Below w.heap.size w w1)=>(Rnd.hQ3 (w:=w1) (lc:=cap) (raw:=GQ4 R) (rv:=.slice (some ⟨rb,ro,none⟩) l.length rc) hc hw Cf Iu (fun j p hj=>⟨(hb.cell (p:=⟨lb,lo+j*3,none⟩) hlb).trans (hlp j p hj).1,(hb.cell (p:=⟨lb,lo+j*3+1,none⟩) hlb).trans (hlp j p hj).2.1,(hb.cell (p:=⟨lb,lo+j*3+2,none⟩) hlb).trans (hlp j p hj).2.2⟩)
    (.inr ⟨rb,ro,rc,rfl,Iu,fun j hj=>(hb.cell (p:=⟨rb,ro+j,none⟩) hrb).trans (hrp j _ (by rw [GQ4,List.getD_eq_getElem?_getD,M' Cf];rfl))⟩) (by have:=Rnd.pQ3 l (GQ4 R) hc;have:=hs hR;omega) :
    Calls Tryz.prog 23 #[.slice (some ⟨lb,lo,none⟩) l.length cap,.slice (some ⟨rb,ro,none⟩) l.length rc] w1 fun e w'=>e=.returned (AQ2 (pQ2 l (GQ4 R)))/\Below w1.heap.size w1 w'))
   clear hp hr hw hs hc hT hlp hrp hl0 hR;generalize pQ2 l (GQ4 R)=S at *;obtain⟨S1,hS1⟩:∃ S1,S1=if 65536 < S.length then [] else S:=⟨_,rfl⟩
   obtain⟨M1,hM1⟩:∃ M1:Int,M1=if 65536 < S.length then 2 else 0:=⟨_,rfl⟩
   unfold AQ2 at HW ⊢;rw [<- hS1,<- hM1] at HW ⊢;clear hS1 hM1;generalize l.length=ll at *;go_enter Tryz.func12,Tryz.ntmps12;go_wp2_with fail;refine HC.out.mono ?_;rintro e w2 ⟨rfl,hb⟩;simp only [if_true];go_wp2_with fail;refine (HW.out w2 hb).mono ?_;rintro e w3 ⟨rfl,hb3⟩;have hb4:=hid (dA hb hb3);clear hb hb3;go_wp2_with fail;go_ret2;exact⟨rfl,hb4.out⟩
  ·rw [if_pos rfl,if_neg hR];have i1:((R.length:Int) != (l.length:Int))=true:=by simp;omega
   clear hp hr hw hs hc hR hT;generalize R.length=rl at *;generalize l.length=ll at *;go_enter Tryz.func12,Tryz.ntmps12;go_wp2_with fail;refine HC.out.mono ?_;rintro e w2 ⟨rfl,hb⟩;simp only [if_true];go_wp2_with fail;go_ret2;exact⟨rfl,hb⟩
theorem XQ9 (l:List Pt) (R:List (List UInt8)):∃ (S:List UInt8) (er:Int),yQ9 l R=.tuple #[.string ⟨S.toArray⟩,.int .i64 er]:=by
 unfold yQ9 AQ2;split
 ·split
  ·exact⟨_,_,rfl⟩
  ·exact⟨[],1,rfl⟩
 ·exact⟨[],8,rfl⟩
theorem mixed_law (a1 ra:Option Addr) (c1 rc:Nat) {l:List Pt}{R:List (List UInt8)} (hp:tB w a1 l) (hr:WsO w ra R) (hl:l.length<=140737488351232) (hR:R.length<=140737488351232) (hwl:∀ p∈l,p.w.length<=140737488351232) (hrw:∀ x∈R,x.length<=140737488351232) (hT:NC w) :
  Calls Tryz.prog 4 #[.slice a1 l.length c1,.slice ra R.length rc] w fun e w'=>e=.returned (.bool true)/\Below w.heap.size w w':=by
 have HG:=hid (rQ7 a1 ra c1 rc l R hp hr Cf Cf hwl hrw);have HF:=hid (fun (w1:World) (h:Below w.heap.size w w1)=>Rnd.FQ2 (hT.below h));by_cases hbig:1500 < l.length+R.length+RQ4 l+aQ5 R
 ·rw [decide_eq_true hbig] at HG;clear hp hwl hT hl hbig hr hR hrw;generalize l.length=n at *;generalize R.length=rn at *;go_enter Tryz.func4,Tryz.ntmps4;go_wp2_with fail;refine HG.out.mono ?_;rintro e w1 ⟨rfl,hw1⟩;replace hw1:=hw1.symm;subst hw1;go_wp2_with fail;refine (HF.out w (J' _ _)).mono ?_;rintro e w3 ⟨rfl,hb3⟩;go_wp2_with fail;go_ret;exact⟨rfl,hb3⟩
 ·rw [decide_eq_false hbig] at HG;have hws:=vQ9 l;replace hwl:∀ p∈l,p.w.length<=1048576:=fun p hp=>by have:=KQ9 hp;omega
  have hso:∀ w1,Below w.heap.size w w1->WsO w1 ra R:=fun w1 hb=>by
   rcases hr with h|⟨b,o,h1,h2,h3⟩
   ·exact .inl h
   ·exact .inr ⟨b,o,h1,Af h2 hb.size,fun j x hx=>(hb.cell (p:=⟨b,o+j,none⟩) h2).trans (h3 j x hx)⟩
  have hsum:R.length=l.length->EQ2 l+tQ2 (GQ4 R) 0 l.length<=1000000000:=fun e=>by
   have:=BQ9 R l.length 0 Cf;rw [List.drop_zero] at this;omega
  have HX:Hid (∀ w1,Below w.heap.size w w1->Calls Tryz.prog 13 #[.slice a1 l.length c1,.slice ra R.length rc] w1 fun e w'=>e=.returned (yQ9 l R)/\Below w1.heap.size w1 w'):=hid fun w1 hb=>JQ6 a1 ra c1 rc l R Cf (hp.later hb) (hso w1 hb) hwl hsum
  have HY:Hid (Calls Tryz.prog 12 #[.slice a1 l.length c1,.slice ra R.length rc] w fun e w'=>e=.returned (yQ9 l R)/\Below w.heap.size w w'):=hid (WQ9 a1 ra c1 rc l R Cf hp hr hwl hT hsum);obtain⟨S,er,hV⟩:=XQ9 l R;rw [hV] at HX HY;clear hp hwl hT hl hbig hr hR hrw hws hso hsum hV;generalize l.length=n at *;generalize R.length=rn at *;go_enter Tryz.func4,Tryz.ntmps4;go_wp2_with fail;refine HG.out.mono ?_;rintro e w1 ⟨rfl,hw1⟩;replace hw1:=hw1.symm;subst hw1;have HB2:=hid (J' w.heap.size w);have HT2:=HY;exact iQ6
end Ck
