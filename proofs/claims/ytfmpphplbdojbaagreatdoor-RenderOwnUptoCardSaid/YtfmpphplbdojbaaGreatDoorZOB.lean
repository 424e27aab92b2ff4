import Derived.Test.YtfmpphplbdojbaaGreatDoorZOA
namespace Go.Proofs.YtfmpphplbdojbaaGreatDoor
open Lib(hid)
set_option linter.all false
set_option maxHeartbeats 40000000
set_option maxRecDepth 100000
namespace Rnd
open Go.RowKit
open Grd (Pt Fo tB)
variable {w w':World}
def iQ3 (goal:UInt8) (s:List UInt8):Option (List UInt8):=match tD kE goal s with
 | .ok l t=>if fF (mQ2 s l t)&&(decide ((mQ2 s l t).length≤3000)&&((mQ2 s l t).all fun p=>decide (p.w.length≤1048576))) then some (jQ2 (mQ2 s l t)) else none
 | .bad _ _=>none
theorem fx1:iQ3 3 [105,102,32,120,58,61,102,40,41,59,120,123,97,125]=some [105,102,32,120,32,58,61,32,102,40,41,59,32,120,32,123,10,97,10,125,10]:=by kernel_rfl
theorem fx2:iQ3 2 [45,32,45,120]=some [45,32,45,120]:=by kernel_rfl
theorem bQ3 {goal:UInt8}{s x:List UInt8} (h:iQ3 goal s=some x) (hx:x.length≤65536):∃ l t,tD kE goal s=.ok l t∧(fF (mQ2 s l t)=true∧(jQ2 (mQ2 s l t)).length≤65536)∧jQ2 (mQ2 s l t)=x∧(mQ2 s l t).length≤100000∧∀ p∈mQ2 s l t,p.w.length≤1048576:=by
 unfold iQ3 at h;split at h
 ·rename_i l t hr;split at h
  ·rename_i hc;simp only [Bool.and_eq_true,decide_eq_true_eq,List.all_eq_true] at hc;have he:=Option.some.inj h;exact⟨l,t,hr,⟨hc.1,by rw [he];exact hx⟩,he,by omega,hc.2.2⟩
  ·cases h
 ·cases h
theorem VQ2 {goal:UInt8}{s:List UInt8}{l:List Tk}{t:Tr} (hr:tD kE goal s=.ok l t) (w:World) (hT:NC w):Calls Tryz.prog 17 #[.int .u8 (goal.toNat:Int),.string ⟨s.toArray⟩] w fun e w'=>∃ a c,e=.returned (.tuple #[.slice a (mQ2 s l t).length c,.agg #[.int .i64 0,.int .i64 0]])∧tB w' a (mQ2 s l t)∧Below w.heap.size w w':=by
 have h1:=nV goal s w hT;rw [hr] at h1;refine h1.mono ?_;rintro e w2 ⟨pa,pn,pc,rfl,hq,hb⟩;have q1:w2.ownsRow w.heap.size 46 3 (.slice pa pn pc) (parts ⟨s,l,[]⟩ t).length (CF (parts ⟨s,l,[]⟩ t)):=hq;have e1:pn=(parts ⟨s,l,[]⟩ t).length:=by
  obtain⟨_,_,e⟩:=Grd.ID q1;cases e;rfl
 subst e1;have e2:(parts ⟨s,l,[]⟩ t).length=(mQ2 s l t).length:=by unfold mQ2;rw [List.length_map]
 refine⟨pa,pc,by rw [e2];rfl,qP q1 rfl,hb⟩
theorem yS (a:Option Addr) (cap:Nat) (l:List Pt) (hp:tB w a l) (hl:l.length≤100000) (hw:∀ p∈l,p.w.length≤1048576) (hT:NC w) (hc:fF l=true∧(jQ2 l).length≤65536) :
  Calls Tryz.prog 10 #[.slice a l.length cap] w fun e w'=>e=.returned (.tuple #[.string ⟨(jQ2 l).toArray⟩,.int .i64 0])∧Below w.heap.size w w' :=
 (BQ2 a cap l hp hl hw hT).mono fun e w' ⟨⟨s,er,he,hs⟩,hb⟩=>by
  rw [if_pos hc] at hs;obtain⟨rfl,rfl⟩:=hs;exact⟨he,hb⟩
def TOk (w:World) (e:Ending) (w':World) (L:List Pt):Prop:=∃ a c,e=.returned (.tuple #[.slice a L.length c,.agg #[.int .i64 0,.int .i64 0]])∧tB w' a L∧Below w.heap.size w w'
theorem gQ3 {goal:UInt8}{s x:List UInt8} (h:iQ3 goal s=some x) (hx:x.length≤65536):∃ L:List Pt,(∀ w,NC w→Calls Tryz.prog 17 #[.int .u8 (goal.toNat:Int),.string ⟨s.toArray⟩] w (fun e w'=>TOk w e w' L)) ∧
  ∀ w a c,NC w→tB w a L→Calls Tryz.prog 10 #[.slice a L.length c] w fun e w'=>e=.returned (.tuple #[.string ⟨x.toArray⟩,.int .i64 0])∧Below w.heap.size w w':=by
 obtain⟨l,t,hr,hc,ht,hl,hw⟩:=bQ3 h hx;exact⟨mQ2 s l t,fun w hT=>VQ2 hr w hT,fun w a c hT hp=>by rw [← ht];exact yS a c _ hp hl hw hT hc⟩
theorem FQ2 (hT:NC w):Calls Tryz.prog 9 #[] w (fun e w'=>e=.returned (.bool true)∧Below w.heap.size w w'):=by
 obtain⟨L1,H1,G1⟩:=gQ3 fx1 (by decide);obtain⟨L2,H2,G2⟩:=gQ3 fx2 (by decide);have HT:=hid hT;have HH1:=hid H1;have HG1:=hid G1;have HH2:=hid H2;have HG2:=hid G2;clear hT H1 H2 G1 G2;go_enter Tryz.func9,Tryz.ntmps9;go_wp2_with fail;refine (HH1.out w HT.out).mono ?_;rintro e w2 ⟨a1,c1,rfl,hp1,hb1⟩;go_upto_region 2 with fail;have h2:=heap_alloc_new w2 (Obj.cells #[.int .i64 0,.int .i64 0] 35);have b2:=(Below.refl w2.heap.size w2).alloc (Nat.le_refl _) (Obj.cells #[.int .i64 0,.int .i64 0] 35);have s2:w2.heap.size < (w2.alloc (Obj.cells #[.int .i64 0,.int .i64 0] 35)).heap.size:=by simp
 have HB2:=hid (dA hb1 b2);have HP2:=hid (hp1.later b2);clear b2 hp1 hb1;generalize w2.alloc (Obj.cells #[.int .i64 0,.int .i64 0] 35)=wA at *;go_wp2_with fail;refine (HG1.out _ _ _ (HT.out.below HB2.out) HP2.out).mono ?_;rintro e w3 ⟨rfl,hb3⟩;have h2:=(hb3.block _ s2).trans h2;have l2:=Nat.lt_of_lt_of_le s2 hb3.size;have HB3:=hid (dA HB2.out hb3);clear hb3 s2 HB2;go_wp2_with fail;refine (HH2.out _ (HT.out.below HB3.out)).mono ?_;rintro e w4 ⟨a2,c2,rfl,hp2,hb4⟩;have h2:=(hb4.block _ l2).trans h2;have l3:=Nat.lt_of_lt_of_le l2 hb4.size;have HB4:=hid (dA HB3.out hb4);clear hb4 HB3;go_upto_region 4 with fail;have h4:=heap_alloc_new w4 (Obj.cells #[.int .i64 0,.int .i64 0] 35);have b4:=(Below.refl w4.heap.size w4).alloc (Nat.le_refl _) (Obj.cells #[.int .i64 0,.int .i64 0] 35);have s4:w4.heap.size < (w4.alloc (Obj.cells #[.int .i64 0,.int .i64 0] 35)).heap.size:=by simp
 have h2:=(b4.block _ l3).trans h2;have HB5:=hid (dA HB4.out b4);have HP5:=hid (hp2.later b4);clear b4 hp2 HB4;generalize w4.alloc (Obj.cells #[.int .i64 0,.int .i64 0] 35)=wB at *;go_wp2_with fail;refine (HG2.out _ _ _ (HT.out.below HB5.out) HP5.out).mono ?_;rintro e w5 ⟨rfl,hb6⟩;have h2:=(hb6.block _ (Nat.lt_trans l3 s4)).trans h2;have h4:=(hb6.block _ s4).trans h4;have HB6:=hid (dA HB5.out hb6);clear hb6 HB5;obtain⟨g1,g2,_,_⟩:=YB h2;obtain⟨g3,g4,_,_⟩:=YB h4;clear h2 h4;go_wp2_with fail;go_ret;exact⟨rfl,HB6.out⟩
end Rnd
namespace Rnd
open Go.RowKit
open Grd (Pt Fo tB)
variable {w w':World}
theorem vQ2 {g:UInt8}{l:List Pt} (h:rQ2 g l=true):∃ k t,tD kE g (jQ2 l)=.ok k t∧l=mQ2 (jQ2 l) k t∧fF l=true∧(jQ2 l).length≤65536:=by
 unfold rQ2 at h;simp only [Bool.and_eq_true,decide_eq_true_eq] at h;obtain⟨h1,h2,h3⟩:=h;split at h3
 ·rename_i k t hr;exact⟨k,t,hr,(uQ2 _ _).1 h3,h1,h2⟩
 ·cases h3
theorem oQ3 {g:UInt8}{l m:List Pt} (h:rQ2 g l=true) (h2:rQ2 g m=true) (e:jQ2 l=jQ2 m):l=m:=by
 obtain⟨k,t,hr,hl,_⟩:=vQ2 h;obtain⟨k2,t2,hr2,hm,_⟩:=vQ2 h2;rw [e,hr2] at hr;cases hr;rw [hl,hm,e]
theorem own_law (n:UInt8) (a1 a2:Option Addr) (c1 c2:Nat) {l m:List Pt} (hp:tB w a1 l) (hq:tB w a2 m) (hl:l.length≤100000000) (hm:m.length≤100000000) (hwl:∀ p∈l,p.w.length≤1048576) (hwm:∀ p∈m,p.w.length≤1048576) (hT:NC w) :
  Calls Tryz.prog 6 #[.int .u8 (n.toNat:Int),.slice a1 l.length c1,.slice a2 m.length c2] w fun e w'=>e=.returned (.bool true)∧Below w.heap.size w w':=by
 obtain⟨gl,hgl⟩:∃ g,g=NX n:=⟨_,rfl⟩;have hgn:(gl.toNat:Int)=1+(n.toNat:Int) % 4:=by rw [hgl];exact GY n
 have HGN:=hid hgn;have HT:=hid hT;have HP:=hid (And.intro hp hq);have HF:=hid (fun (w1:World) (h:Below w.heap.size w w1)=>FQ2 (hT.below h));have HFL:=hid (fun (w1:World) (h:Below w.heap.size w w1) (hs:l.length≤3000)=>CQ2 gl a1 c1 l (hp.later h) (by omega) hwl (hT.below h));have HFM:=hid (fun (w1:World) (h:Below w.heap.size w w1) (hs:m.length≤3000)=>CQ2 gl a2 c2 m (hq.later h) (by omega) hwm (hT.below h));have HW:=hid (And.intro hwl hwm);clear hp hq hT hwl hwm hgl hgn;go_enter Tryz.func6,Tryz.ntmps6;go_wp2_with fail;refine (HF.out w (Below.refl _ _)).mono ?_;rintro e w2 ⟨rfl,hb2⟩;have HB2:=hid hb2;clear hb2;by_cases h1:3000 < l.length
 ·have i1:(3000:Int) < (l.length:Int):=by omega
  go_wp2_with fail;refine (HF.out w2 HB2.out).mono ?_;rintro e w3 ⟨rfl,hb3⟩;have hb:=hid (dA HB2.out hb3);clear hb3;go_wp2_with fail;go_ret;exact⟨rfl,hb.out⟩
 ·have i1:¬ (3000:Int) < (l.length:Int):=by omega
  by_cases h2:3000 < m.length
  ·have i2:(3000:Int) < (m.length:Int):=by omega
   go_wp2_with fail;refine (HF.out w2 HB2.out).mono ?_;rintro e w3 ⟨rfl,hb3⟩;have hb:=hid (dA HB2.out hb3);clear hb3;go_wp2_with fail;go_ret;exact⟨rfl,hb.out⟩
  ·have i2:¬ (3000:Int) < (m.length:Int):=by omega
   go_wp2_with fail;rw [← HGN.out];refine (HFL.out w2 HB2.out (by omega)).mono ?_;rintro e w3 ⟨rfl,hb3⟩;have HB3:=hid (dA HB2.out hb3);clear hb3;cases hx:rQ2 gl l with
   | false =>
    clear hx;go_wp2_with fail;refine (HF.out w3 HB3.out).mono ?_;rintro e w9 ⟨rfl,hb9⟩;have hb:=hid (dA HB3.out hb9);clear hb9;go_wp2_with fail;go_ret;exact⟨rfl,hb.out⟩
   | true =>
    have HXL:=hid hx;clear hx;go_wp2_with fail;refine (HFM.out w3 HB3.out (by omega)).mono ?_;rintro e w4 ⟨rfl,hb4⟩;have HB4:=hid (dA HB3.out hb4);clear hb4;cases hy:rQ2 gl m with
    | false =>
     clear hy;go_wp2_with fail;refine (HF.out w4 HB4.out).mono ?_;rintro e w9 ⟨rfl,hb9⟩;have hb:=hid (dA HB4.out hb9);clear hb9;go_wp2_with fail;go_ret;exact⟨rfl,hb.out⟩
    | true =>
     have HXM:=hid hy;clear hy;obtain⟨k,t,hr,hlk,hcl,hsl⟩:=vQ2 HXL.out;have hcs:fF m=true∧(jQ2 m).length≤65536:=by
      obtain⟨_,_,_,_,h1,h2⟩:=vQ2 HXM.out;exact⟨h1,h2⟩
     obtain⟨hcm,hsm⟩:=hcs;have H1:=hid (fun (w1:World) (h:Below w.heap.size w w1)=>yS a1 c1 l (HP.out.1.later h) (by omega) HW.out.1 (HT.out.below h) ⟨hcl,hsl⟩);have H2:=hid (fun (w1:World) (h:Below w.heap.size w w1)=>yS a2 c2 m (HP.out.2.later h) (by omega) HW.out.2 (HT.out.below h) ⟨hcm,hsm⟩);have H3:=hid (fun (w1:World) (h:Below w.heap.size w w1)=>VQ2 hr w1 (HT.out.below h));have HLK:=hid hlk;have HSS:Hid (l≠m→jQ2 l≠jQ2 m):=hid (fun h e=>h (oQ3 HXL.out HXM.out e));have HLL:=hid (And.intro (show l.length≤1099511627776 by omega) (show m.length≤1099511627776 by omega));clear hr hlk hcl hsl hcm hsm;rw [← HLK.out] at H3;generalize hs:jQ2 l=S1 at *;generalize ht:jQ2 m=S2 at *;have HEQ:=hid (And.intro hs ht);clear hs ht;go_wp2_with fail;refine (H1.out w4 HB4.out).mono ?_;rintro e w5 ⟨rfl,hb5⟩;have HB5:=hid (dA HB4.out hb5);clear hb5;go_wp2_with fail;refine (H2.out w5 HB5.out).mono ?_;rintro e w6 ⟨rfl,hb6⟩;have HB6:=hid (dA HB5.out hb6);clear hb6;go_wp2_with fail;refine (H3.out w6 HB6.out).mono ?_;rintro e w7 ⟨ax,cx,rfl,hpx,hb7⟩;have HB7:=hid (dA HB6.out hb7);have HPX:=hid hpx;clear hb7 hpx;go_upto_region 7 with fail;have h7:=heap_alloc_new w7 (Obj.cells #[.int .i64 0,.int .i64 0] 35);have b7:=(Below.refl w7.heap.size w7).alloc (Nat.le_refl _) (Obj.cells #[.int .i64 0,.int .i64 0] 35);have HB8:=hid (dA HB7.out b7);have HPX8:=hid (HPX.out.later b7);clear b7;generalize w7.alloc (Obj.cells #[.int .i64 0,.int .i64 0] 35)=w8 at *;obtain⟨g1,g2,_,_⟩:=YB h7;clear h7;have HS1:=hid (OQ2 (w:=w8) ax a1 cx c1 l l HLL.out.1 HPX8.out (HP.out.1.later HB8.out));have HS2:=hid (fun w1 (hb:Below w.heap.size w w1)=>OQ2 (w:=w1) a1 a2 c1 c2 l m HLL.out.1 (HP.out.1.later hb) (HP.out.2.later hb));obtain⟨y,hy⟩:∃ y,y=eqL l m:=⟨_,rfl⟩;have hst:(S1==S2)=y:=by
      rw [hy,Bool.eq_iff_iff,uQ2,beq_iff_eq];constructor
      ·intro e;exact Classical.byContradiction fun hne=>HSS.out hne e
      ·intro e;rw [← HEQ.out.1,← HEQ.out.2,e]
     rw [← hy] at HS2;rw [(uQ2 l l).2 rfl] at HS1;clear hy;go_wp2_with fail;refine HS1.out.mono ?_;rintro e w9 ⟨rfl,hb9⟩;have HB9:=hid (dA HB8.out hb9);clear hb9;go_wp2_with fail;refine (HS2.out w9 HB9.out).mono ?_;rintro e w10 ⟨rfl,hb10⟩;have HB10:=hid (dA HB9.out hb10);clear hb10;go_wp2_with fail;go_ret;exact⟨rfl,HB10.out⟩
end Rnd
end Go.Proofs.YtfmpphplbdojbaaGreatDoor
