import Derived.Laws.IdiomStrings
import Derived.Lib.IndexLaws
import Derived.Test.YtfmpphplbdojbaaGreatDoorQAY
namespace Go.Proofs.YtfmpphplbdojbaaGreatDoor
open Lib(hid)
set_option linter.all false
set_option maxHeartbeats 40000000
set_option maxRecDepth 100000
section
open Go.RowKit
variable {w:World}
theorem cM {base:Nat}{ov:Value}{out:List UInt8} (h:w.ownsRow base 5 1 ov out.length (Lib.byteCells out)) (j:Nat):(convert 40 9 ov).run Tryz.prog (w.drewN j)=.ok (.string ⟨out.toArray⟩) (w.drewN j):=by
 rcases h.2 with ⟨e1,e2⟩|⟨g,cap,cur,e1,e2,e3,e4,e5,e6,e7⟩
 ·have:out=[]:=List.length_eq_zero_iff.1 e2;rw [this,e1,run_convert_bytes_string (w.drewN j) _ _ 5 none 0 0 Tryz.underBs Ci Tryz.underStr];simp [Conv.bytesToString]
  rfl
 ·subst e1;refine run_convert_bytes_back (w.drewN j) 40 9 5 ⟨g,0,none⟩ cap out Tryz.underBs Ci Tryz.underStr (fun i hi=>?_);have hx:(Lib.byteCells out)[i]?=some (.int .u8 (out[i].toNat:Int)):=by simp [Lib.byteCells,hi]
  rw [<- e7,List.getElem?_take] at hx;have hi2:i < out.length*1:=Cf
  rw [if_pos hi2] at hx;have hadd:(⟨g,0,none⟩:Addr).add i=⟨g,i,none⟩:=by unfold Addr.add;split <;> simp_all
  rw [hadd];unfold World.cell?;have e3':(w.drewN j).heap[g]?=some (.cells cur 5 (0,0)):=e3;rw [e3'];simpa using hx
theorem RC {fn:Func}{t u v x:Tmp} (h:fn.results=#[.tmp t,.tmp u,.tmp v,.tmp x]) (tmps:Array Value) (P:Program) (w:World) :
  (results fn tmps).run P w=.ok (.tuple #[tmps.getD t undef,tmps.getD u undef,tmps.getD v undef,tmps.getD x undef]) w:=by
 simp [results,h]
theorem cW (l:List UInt8) (c:UInt8):Lib.indexByte l c < l.length∨Lib.indexByte l c < 0:=by
 by_cases h:Lib.indexByte l c < 0
 ·exact .inr h
 ·left
  obtain⟨o,ho⟩:=Aa (Int.not_lt.1 h);have:=(Lib.indexByte_some ho).1;have:=(Ai.1 this).1;omega
structure Lit where
 k:Int
 tx:Int
 v:List UInt8
 e:Int
def YA (l:List UInt8) (a:Int):Lit :=
 if h:0<=a/\a < l.length then
  if Lib.indexByte ([39,34,96]:List UInt8) (l[a.toNat]' Cf) < 0 then ⟨0,0,[],15⟩
  else if l[a.toNat]' Cf=96 then
   if Lib.indexByte (l.drop (a.toNat+1)) 96 < 0 then ⟨0,0,[],4⟩
   else ⟨7,a+Lib.indexByte (l.drop (a.toNat+1)) 96+2,Lib.replaceAll ((l.drop (a.toNat+1)).take (Lib.indexByte (l.drop (a.toNat+1)) 96).toNat) [13] [],0⟩
  else if (jC l (l[a.toNat]' Cf) l.length 0 ⟨a.toNat+1,[],false⟩).1 then
   ⟨if l[a.toNat]' Cf=34 then 7 else 6,(jC l (l[a.toNat]' Cf) l.length 0 ⟨a.toNat+1,[],false⟩).2.k,(jC l (l[a.toNat]' Cf) l.length 0 ⟨a.toNat+1,[],false⟩).2.out,0⟩
  else ⟨0,0,[],4⟩
 else ⟨0,0,[],15⟩
def Lit.val (r:Lit):Value:=.tuple #[.int .u8 r.k,.int .i64 r.tx,.string ⟨r.v.toArray⟩,.int .i64 r.e]
theorem pM (l:List UInt8) (a:Int) (hl:l.length<=1048576) (hT:NC w) :
  Calls Tryz.prog 79 #[.string ⟨l.toArray⟩,.int .i64 a] w (fun e w'=>e=.returned (YA l a).val/\Below w.heap.size w w'):=by
 have hb:=J' w.heap.size w;by_cases h0:a < 0
 ·have e:YA l a=⟨0,0,[],15⟩:=by unfold YA;rw [dif_neg Cf]
  rw [e];go_enter Tryz.func79,Tryz.ntmps79;go_wp2_with fail
  all_goals (try simp only [Exit.inBlock,Exit.then]);refine bodyPost_ret (RC rfl _ _ _) rfl ?_
  all_goals exact⟨rfl,hb⟩
 obtain⟨k,rfl⟩:=Aa (Int.not_lt.1 h0);by_cases hk:k < l.length
 ·have e:YA l k=YA l k:=rfl
  conv at e=>rhs;unfold YA
  rw [dif_pos Cf] at e;simp only [Ae] at e;have hI:=fun w=>Tryz.strings_IndexByte ⟨([39,34,96]:List UInt8).toArray⟩ (l[k].toNat:Int) w
  have hc8:((l[k].toNat:Int).toNat.toUInt8)=l[k]:=Cm
  simp only [hc8] at hI;obtain⟨ix,hix⟩:∃ ix,ix=Lib.indexByte ([39,34,96]:List UInt8) l[k]:=⟨_,rfl⟩;rw [<- hix] at hI e;have HIX:=hid hix;clear hix;by_cases h1:ix < 0
  ·rw [if_pos h1] at e;rw [e];clear e;go_enter Tryz.func79,Tryz.ntmps79;go_wp2_with (go_at_call 118;refine (hI _).mono ?_;rintro e w1 ⟨rfl,rfl⟩)
   all_goals (try simp only [Exit.inBlock,Exit.then]);refine bodyPost_ret (RC rfl _ _ _) rfl ?_
   all_goals exact⟨rfl,hb⟩
  rw [if_neg h1] at e;by_cases h2:l[k]=96
  ·rw [if_pos h2] at e;have hI2:=fun w=>Tryz.strings_IndexByte ⟨(l.drop (k+1)).toArray⟩ 96 w
   have hc9:((96:Int).toNat.toUInt8)=96:=Ch
   simp only [hc9] at hI2;obtain⟨jx,hjx⟩:∃ jx,jx=Lib.indexByte (l.drop (k+1)) 96:=⟨_,rfl⟩;rw [<- hjx] at hI2 e;have hjb:=cW (l.drop (k+1)) 96;rw [<- hjx,V'] at hjb;have d1:l[k].toNat=96:=by rw [h2];rfl
   have hI0:=hI;replace hI:∀ w,Calls Tryz.prog 118 #[.string ⟨([39,34,96]:List UInt8).toArray⟩,.int .u8 96] w fun e w'=>e=.returned (.int .i64 ix)/\w'=w:=by
    intro w;have:=hI0 w;rw [d1] at this;exact this
   clear hI0 hjx h2;by_cases h3:jx < 0
   ·rw [if_pos h3] at e;rw [e];clear e;go_enter Tryz.func79,Tryz.ntmps79;go_wp2_with (first|(go_at_call 118;refine (hI _).mono ?_;rintro e w1 ⟨rfl,rfl⟩)|(go_at_call 118;refine (hI2 _).mono ?_;rintro e w1 ⟨rfl,rfl⟩))
    all_goals (try simp only [Exit.inBlock,Exit.then]);refine bodyPost_ret (RC rfl _ _ _) rfl ?_
    all_goals exact⟨rfl,hb⟩
   ·rw [if_neg h3] at e;obtain⟨n,rfl⟩:=Aa (Int.not_lt.1 h3);obtain⟨mx,hmx⟩:=hT.2;have hRA:=fun w (hm:w.cell? ⟨0,0,none⟩=some (.int .i64 mx))=>Tryz.strings_ReplaceAll ⟨((l.drop (k+1)).take n).toArray⟩ ⟨#[13]⟩ ⟨#[]⟩ mx w Fs hm Ch Fs
    rw [e];clear e;go_enter Tryz.func79,Tryz.ntmps79;go_wp2_with (first|(go_at_call 118;refine (hI _).mono ?_;rintro e w1 ⟨rfl,rfl⟩)|(go_at_call 118;refine (hI2 _).mono ?_;rintro e w1 ⟨rfl,rfl⟩)|(go_at_call 119;refine (hRA _ hmx).mono ?_;rintro e w1 ⟨rfl,hb1⟩))
    all_goals (try simp only [Exit.inBlock,Exit.then]);refine bodyPost_ret (RC rfl _ _ _) rfl ?_
    all_goals exact⟨rfl,hb1⟩
  ·rw [if_neg h2] at e;have d1:((l[k].toNat:Int)==96)=false:=by
    have:=zF l[k] 96;simp only [h2,decide_false] at this;exact this.symm
   have hT2:∀ w',Below w.heap.size w w'->NC w':=fun w' h=>hT.below h
   have HT:=hid hT2;have hIc:=hid hI;obtain⟨R,hR⟩:∃ R,R=jC l l[k] l.length 0 ⟨k+1,[],false⟩:=⟨_,rfl⟩;have hW:=fun w1 (H:Rq w.heap.size w l 0 ⟨k,[],false⟩ w1)=>GR H hl hk rfl HT.out
   simp only [<- hR] at hW e;have HRR:=hid hR;have HW:=hid hW;have hq34:∀ b,decide (l[k]=34)=b->(if l[k]=34 then (7:Int) else 6)=if b then 7 else 6:=fun b h=>by subst h;simp
   have H0:∀ o,o=Obj.cells #[.string ⟨l.toArray⟩,.int .i64 (k:Int),.int .u8 0,.slice none 0 0,.bool false] 157->Rq w.heap.size w l 0 ⟨k,[],false⟩ (w.alloc o):=by
    rintro o rfl;exact⟨⟨.slice none 0 0,heap_alloc_new w _,rfl,.inl ⟨rfl,rfl⟩⟩,(J' _ _).alloc (C' _) _⟩
   clear hW hR hT hT2;cases h5:R.1 with
   | false =>
    rw [h5,if_neg Cm] at e;rw [e];clear e;go_enter Tryz.func79,Tryz.ntmps79;go_wp2_with (first|(go_at_call 118;refine (hI _).mono ?_;rintro e w1 ⟨rfl,rfl⟩)|(go_at_call 120;refine (HW.out _ (H0 _ rfl)).mono ?_;rintro e w2 ⟨rfl,hR2⟩))
    all_goals (try simp only [Exit.inBlock,Exit.then]);refine bodyPost_ret (RC rfl _ _ _) rfl ?_
    all_goals exact⟨rfl,hR2.bel⟩
   | true =>
    rw [h5,if_pos rfl] at e;cases h6:((l[k].toNat:Int)==34) with
    | true =>
     rw [hq34 true (by rw [zF];exact h6),if_pos rfl] at e;rw [e];clear e hq34;go_enter Tryz.func79,Tryz.ntmps79;go_wp2_with (first|(go_at_call 118;refine (hI _).mono ?_;rintro e w1 ⟨rfl,rfl⟩)|(go_at_call 120;refine (HW.out _ (H0 _ rfl)).mono ?_;rintro e w2 ⟨rfl,hR2⟩;obtain⟨ov,hblk,hown⟩:=hR2.blk;obtain⟨c0,c1,c2,c3,c4,f1,f2,f3,f4⟩:=CA hblk;have hcv:=cM hown));go_quiet (fail);go_wp2_with fail
     (try simp only [Exit.inBlock,Exit.then]);refine bodyPost_ret (RC rfl _ _ _) rfl ?_
     exact⟨rfl,(hR2.drewN _).bel⟩
    | false =>
     rw [hq34 false (by rw [zF];exact h6),if_neg Cm] at e;rw [e];clear e hq34;go_enter Tryz.func79,Tryz.ntmps79;go_wp2_with (first|(go_at_call 118;refine (hI _).mono ?_;rintro e w1 ⟨rfl,rfl⟩)|(go_at_call 120;refine (HW.out _ (H0 _ rfl)).mono ?_;rintro e w2 ⟨rfl,hR2⟩;obtain⟨ov,hblk,hown⟩:=hR2.blk;obtain⟨c0,c1,c2,c3,c4,f1,f2,f3,f4⟩:=CA hblk;have hcv:=cM hown));go_quiet (fail);go_wp2_with fail
     (try simp only [Exit.inBlock,Exit.then]);refine bodyPost_ret (RC rfl _ _ _) rfl ?_
     exact⟨rfl,(hR2.drewN _).bel⟩
 ·have e:YA l k=⟨0,0,[],15⟩:=by unfold YA;rw [dif_neg Cf]
  rw [e];go_enter Tryz.func79,Tryz.ntmps79;go_wp2_with fail
  all_goals (try simp only [Exit.inBlock,Exit.then]);refine bodyPost_ret (RC rfl _ _ _) rfl ?_
  all_goals exact⟨rfl,hb⟩
theorem rR (l:List UInt8) (a:Int) (hl:l.length<=1048576) (hT:NC w) :
  Calls Tryz.prog 240 #[.string ⟨l.toArray⟩,.int .i64 a] w (fun e w'=>e=.returned (.tuple #[.int .u8 (YA l a).k,.int .i64 (YA l a).tx,.int .i64 (YA l a).e])/\Below w.heap.size w w'):=by
 have hC:=pM l a hl hT;go_enter Tryz.func240,Tryz.ntmps240;go_wp2_with (go_at_call 79;refine hC.mono ?_;rintro e w1 ⟨rfl,hb⟩;simp only [Lit.val]);go_ret3;exact⟨rfl,hb⟩
def uG (l:List UInt8):List UInt8 × Int:=if (YA l 0).e=0/\(YA l 0).tx=l.length then ((YA l 0).v,0) else ([],4)
end
