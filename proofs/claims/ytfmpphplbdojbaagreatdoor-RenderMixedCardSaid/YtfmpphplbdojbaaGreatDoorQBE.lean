import Derived.Test.YtfmpphplbdojbaaGreatDoorQAF
import Derived.Test.YtfmpphplbdojbaaGreatDoorQAX
import Derived.Test.YtfmpphplbdojbaaGreatDoorQAZ
import Derived.Test.YtfmpphplbdojbaaGreatDoorQBB
namespace Go.Proofs.YtfmpphplbdojbaaGreatDoor
open Lib(hid)
set_option linter.all false
set_option maxHeartbeats 40000000
set_option maxRecDepth 100000
section
open Go.RowKit
variable {w:World}
def gD (k:Int):Int × Bool :=
 if k==2||k==4||k==11||k==12||k==13||k==14||k==20||k==23||k==25 then (0,true)
 else if k==10||k==16||k==18 then (1,true)
 else if k==0||k==26||k==27||k==49 then (0,false)
 else if k==3||k==19||k==28||k==33||k==35||k==36||k==42||k==43||k==45||k==46||k==47||k==48||k==50||k==52||k==54||k==55||k==56||k==57||k==58||k==63||k==68 then (1,false)
 else if k==1||k==6||k==7||k==21||k==60||k==66 then (3,false)
 else if k==31||k==59||k==61||k==65 then (4,false)
 else if k==8 then (5,false)
 else (2,false)
theorem xQ (k:Int):Calls Tryz.prog 34 #[.int .u8 k] w (fun e w'=>e=.returned (.tuple #[.int .i64 (gD k).1,.bool (gD k).2])/\w'=w):=by
 have hA:∀ r,gD k=r->gD k=r:=fun _ h=>h
 generalize hr:gD k=r at *;have HR:=hid hr;clear hA hr;go_enter Tryz.func34,Tryz.ntmps34;go_wp2_with fail
 all_goals first|(rename_i h1 h2;exact absurd (h1.symm.trans h2) Ch)|go_ret2
 all_goals (have h:=HR.out;unfold gD at h;simp only [*,Bool.false_or,Bool.true_or,Bool.or_true,Bool.or_false,if_true,if_false,Bool.false_eq_true,reduceCtorEq] at h;rw [<- h];exact⟨rfl,rfl⟩)
end
section
open Go.RowKit
variable {w:World}
theorem oU (x y:Nat):decide (x=y)=((x:Int)==(y:Int)):=by
  rw [Bool.eq_iff_iff];simp only [decide_eq_true_eq,beq_iff_eq];omega
def rH (r:List UInt8):Nat->Nat->Bool
  | 0,_=>true
  | f+1,p=>if p < r.length then (if oB (dec (r.drop p)).1||(decide (p≠0)&&digitB (dec (r.drop p)).1) then rH r f (p+(dec (r.drop p)).2) else false) else true
def VM (l:List UInt8):Bool:=if (l==[])=true∨iJ l=true∨0<=ZJ l then false else rH l l.length 0
theorem dI {r:List UInt8}{f p:Nat} (h:¬ p < r.length):rH r f p=true:=by
  cases f with
  | zero=>rfl
  | succ f=>simp [rH,h]
theorem YT (l:List UInt8) (hs:l.length<=1125899906842624) (hT:NC w):Calls Tryz.prog 47 #[.string ⟨l.toArray⟩] w (fun e w'=>e=.returned (.bool (VM l))/\Below w.heap.size w w'):=by
  have hb0:=J' w.heap.size w;have hB:=UP (w:=w) l hs hT;have hW:=fun w=>PM (w:=w) l
  have hN:VM l=if (l==[])=true∨iJ l=true∨0<=ZJ l then false else rH l l.length 0:=rfl
  rw [hN];clear hN;generalize ZJ l=bd at *;cases e1:(l==[]) with
  | true =>
    rw [if_pos (.inl rfl)];go_enter Tryz.func47,Tryz.ntmps47;go_wp2_with fail;go_ret;exact⟨rfl,hb0⟩
  | false =>
  cases e2:iJ l with
  | true =>
    rw [e2] at hW;rw [if_pos (.inr (.inl rfl))];clear e2;go_enter Tryz.func47,Tryz.ntmps47;go_wp2_with (go_at_call 75;refine (hW _).mono ?_;rintro e w1 ⟨rfl,hw1⟩;replace hw1:=hw1.symm;subst hw1);go_ret;exact⟨rfl,hb0⟩
  | false =>
  rw [e2] at hW;clear e2;by_cases hbd:0<=bd
  · rw [if_pos (.inr (.inr hbd))]
    have d1:decide (0<=bd)=true:=by simpa using hbd
    clear hbd;go_enter Tryz.func47,Tryz.ntmps47;go_wp2_with (first|(go_at_call 75;refine (hW _).mono ?_;rintro e w1 ⟨rfl,hw1⟩;replace hw1:=hw1.symm;subst hw1)|(go_at_call 76;refine hB.mono ?_;rintro e w2 ⟨rfl,hb2⟩));go_ret;exact⟨rfl,hb2⟩
  rw [if_neg (by simp [hbd])];have d1:decide (0<=bd)=false:=by simpa using hbd
  obtain⟨R,hRR⟩:∃ R,R=rH l l.length 0:=⟨_,rfl⟩;rw [<- hRR];have HRR:=hid hRR;have hsz:(ByteArray.mk l.toArray).size=l.length:=Dx
  clear hRR hbd hT;go_enter Tryz.func47,Tryz.ntmps47;go_wp2_with (first|(go_at_call 75;refine (hW _).mono ?_;rintro e w1 ⟨rfl,hw1⟩;replace hw1:=hw1.symm;subst hw1)|(go_at_call 76;refine hB.mono ?_;rintro e w2 ⟨rfl,hb2⟩;have hlo:=hb2.size))
  go_loopw [3] (fun _ wr=>∃ (pos fuel:Nat),wr.heap[w2.heap.size]?=some (.stringIter ⟨l.toArray⟩ pos)/\(w.heap.size<=w2.heap.size/\Below w.heap.size w wr)/\rH l fuel pos=R/\l.length<=pos+fuel) (fun _ wr=>l.length - wr.iterPos w2.heap.size)
  case atStart=>exact⟨0,l.length,World.iter_heap w2 _ 0,⟨hlo,hb2.alloc hlo _⟩,HRR.out.symm,Cf⟩
  case round =>
    obtain⟨pos,fuel,hit,⟨hlo,hbw⟩,HW,hfu⟩:=hrel;have hpos0:=tC hit;by_cases hp:pos < l.length
    · have hnx:∀ ty,(Instr.next (.pointer (some ⟨w2.heap.size,0,none⟩)) true ty).run Tryz.prog wr=_:=fun ty=>Lib.run_next_any_at wr w2.heap.size _ pos ty hit Dp
      rw [RL hp] at hnx;have hwd:=eG (l:=l.drop pos) Cx;obtain⟨fuel,rfl⟩:∃ f',fuel=f'+1:=⟨fuel - 1,Cf⟩;have hit2:=Lib.iterAt_heap wr w2.heap.size _ pos (pos+(dec (l.drop pos)).2) hit;have hbw2:=Lib.below_iterAt hbw (k:=w2.heap.size) hlo ⟨l.toArray⟩ (pos+(dec (l.drop pos)).2);rw [rH,if_pos hp] at HW;obtain⟨d,hd⟩:∃ d,d=dec (l.drop pos):=⟨_,rfl⟩;rw [<- hd] at hnx hwd hit2 hbw2 HW;obtain⟨W1,hW1⟩:∃ W1,W1=wr.iterAt w2.heap.size ⟨l.toArray⟩ (pos+d.2):=⟨_,rfl⟩;rw [<- hW1] at hnx hit2 hbw2;have hlt:=lt_of_block hit2;have hcs:oB d.1=true/\rH l fuel (pos+d.2)=R∨oB d.1=false/\((pos:Int)==0)=true/\R=false∨oB d.1=false/\((pos:Int)==0)=false/\digitB d.1=true/\rH l fuel (pos+d.2)=R∨oB d.1=false/\((pos:Int)==0)=false/\digitB d.1=false/\R=false:=by
        have hz:decide (pos≠0)=!((pos:Int)==0):=by
          have:=oU pos 0;rw [decide_not,this];rfl
        rw [hz] at HW;cases h1:oB d.1 <;> cases h2:digitB d.1 <;> cases h3:((pos:Int)==0) <;> simp_all
      have HI:=hid (And.intro hit2 (And.intro hbw2 (And.intro hpos0 (And.intro hp (And.intro hwd (And.intro hfu hlt))))));clear hit2 hbw2 hit hbw hpos0 hfu hwd hp hd hW1 HW hlt;rcases hcs with ⟨d2,h1⟩|⟨d2,d3,h1⟩|⟨d2,d3,d4,h1⟩|⟨d2,d3,d4,h1⟩
      all_goals have HH:=hid h1
      all_goals clear h1
      all_goals go_wp2_with (first|(go_at_call 77;refine (XA _).mono ?_;rintro e w3 ⟨rfl,hb3⟩)|(go_at_call 78;refine (aH _).mono ?_;rintro e w4 ⟨rfl,rfl⟩))
      all_goals obtain⟨hit2,hbw2,hpos0,hp,hwd,hfu,hlt⟩:=HI.out
      all_goals have hit3:=(hb3.block _ hlt).trans hit2
      all_goals first
        | (go_ret
           exact⟨by rw [HH.out];rfl,dA hbw2 hb3⟩)
        | exact⟨⟨pos+d.2,fuel,hit3,⟨hlo,dA hbw2 hb3⟩,HH.out,Cf⟩,Gc⟩
    · have hnx:∀ ty,(Instr.next (.pointer (some ⟨w2.heap.size,0,none⟩)) true ty).run Tryz.prog wr=_:=fun ty=>Lib.run_next_end_at wr w2.heap.size _ pos ty hit Dp
      rw [dI hp] at HW;have HB:=hid HW;have HI:=hid hbw;clear hit hbw HW;go_wp2_with fail;go_ret;exact⟨by rw [<- HB.out];rfl,HI.out⟩
end
section
open Go.RowKit
variable {w:World}
def wG (k:Int):List UInt8 :=
 if k==3||k==4 then [32,105,109,112,111,114,116,32,99,111,110,115,116,32,118,97,114,32,116,121,112,101,32]
 else if k==36 then [32,43,32,45,32,33,32,94,32,38,32,60,45,32]
 else if k==37 then [32,124,124,32,38,38,32,61,61,32,33,61,32,60,32,60,61,32,62,32,62,61,32,43,32,45,32,124,32,94,32,42,32,47,32,37,32,60,60,32,62,62,32,38,32,38,94,32]
 else if k==45 then [32,99,104,97,110,32,99,104,97,110,60,45,32,60,45,99,104,97,110,32]
 else if k==52 then [32,43,43,32,45,45,32]
 else if k==53 then [32,61,32,58,61,32,43,61,32,45,61,32,42,61,32,47,61,32,37,61,32,38,61,32,124,61,32,94,61,32,60,60,61,32,62,62,61,32,38,94,61,32]
 else if k==57 then [32,98,114,101,97,107,32,99,111,110,116,105,110,117,101,32,103,111,116,111,32,102,97,108,108,116,104,114,111,117,103,104,32]
 else []
theorem rQ (k:Int):Calls Tryz.prog 50 #[.int .u8 k] w (fun e w'=>e=.returned (.string ⟨(wG k).toArray⟩)/\w'=w):=by
 generalize hr:wG k=r at *;have HR:=hid hr;clear hr;go_enter Tryz.func50,Tryz.ntmps50;go_wp2_with fail
 all_goals first|(rename_i h1 h2;exact absurd (h1.symm.trans h2) Ch)|go_ret
 all_goals (have h:=HR.out;unfold wG at h;simp only [*,Bool.false_or,Bool.true_or,Bool.or_true,Bool.or_false,if_true,if_false,Bool.false_eq_true,reduceCtorEq] at h;rw [<- h];exact⟨rfl,rfl⟩)
def AC (k:Int) (t:List UInt8):Bool :=
 if k==26 then VM t
 else if k==27 then ((uG t).2==0||Num.yE t != 0)
 else if k==5 then (t==[]||t==[46])
 else if k==7 then (t==[]||t==[61])
 else if k==15||k==34 then (t==[]||t==[46,46,46])
 else if k==66 then (t==[]||t==[61]||t==[58,61])
 else if wG k==[] then t==[]
 else !(t==[])&&!decide (0<=Lib.indexByte t 32)&&Lib.contains (wG k) (32::(t++[32]))
end
section
open Go.RowKit
variable {w:World}
theorem yP (l:List UInt8) (hl:l.length<=1048576) (hT:NC w) :
  Calls Tryz.prog 48 #[.string ⟨l.toArray⟩] w (fun e w'=>e=.returned (.tuple #[.string ⟨(uG l).1.toArray⟩,.int .i64 (uG l).2])/\Below w.heap.size w w'):=by
 have hC:=pM l 0 hl hT;have e:uG l=if (YA l 0).e=0/\(YA l 0).tx=l.length then ((YA l 0).v,0) else ([],4):=rfl
 rw [e];clear e;generalize YA l 0=r at *;by_cases h1:r.e=0
 ·by_cases h2:r.tx=l.length
  ·rw [if_pos ⟨h1,h2⟩];have d1:(r.e != 0)=false:=by simp [h1]
   have d2:(r.tx != (l.length:Int))=false:=by simp [h2]
   clear h1 h2;go_enter Tryz.func48,Tryz.ntmps48;go_wp2_with (go_at_call 79;refine hC.mono ?_;rintro e w1 ⟨rfl,hb⟩;simp only [Lit.val]);go_ret2;exact⟨rfl,hb⟩
  ·rw [if_neg (fun h=>h2 h.2)];have d1:(r.e != 0)=false:=by simp [h1]
   have d2:(r.tx != (l.length:Int))=true:=F9
   clear h1 h2;go_enter Tryz.func48,Tryz.ntmps48;go_wp2_with (go_at_call 79;refine hC.mono ?_;rintro e w1 ⟨rfl,hb⟩;simp only [Lit.val]);go_ret2;exact⟨rfl,hb⟩
 ·rw [if_neg (fun h=>h1 h.1)];have d1:(r.e != 0)=true:=by simpa using h1
  clear h1;go_enter Tryz.func48,Tryz.ntmps48;go_wp2_with (go_at_call 79;refine hC.mono ?_;rintro e w1 ⟨rfl,hb⟩;simp only [Lit.val]);go_ret2;exact⟨rfl,hb⟩
end
section
open Go.RowKit
variable {w:World}
attribute [local simp] ByteArray.mk_append_mk
theorem oQ (k:Int) (t:List UInt8) (ht:t.length<=1048576) (hT:NC w):Calls Tryz.prog 35 #[.int .u8 k,.string ⟨t.toArray⟩] w (fun e w'=>e=.returned (.bool (AC k t))/\Below w.heap.size w w'):=by
 have hb:=J' w.heap.size w;have hNm:=YT (w:=w) t Cf hT;have hVl:=yP (w:=w) t ht hT;have hKd:=fun w=>Num.ZD t w Cf
 have hWd:=fun w=>rQ (w:=w) k
 have hC1:=fun w=>Tryz.strings_Contains_one ⟨t.toArray⟩ 32 w
 obtain⟨mx,hmx⟩:=hT.2;have hC2:=fun (w:World) hm=>Tryz.strings_Contains ⟨(wG k).toArray⟩ ⟨(32::(t++[32])).toArray⟩ mx w (by unfold wG;(repeat' split) <;> decide) hm
 have HMX:=hid hmx;clear hmx hT;cases d1:(k==26) with
 | true =>
  have e:AC k t=VM t:=by unfold AC;rw [d1];rfl
  rw [e];go_enter Tryz.func35,Tryz.ntmps35;go_wp2_with (go_at_call 47;refine hNm.mono ?_;rintro e w1 ⟨rfl,hb1⟩);go_ret;exact⟨rfl,hb1⟩
 | false =>
 cases d2:(k==27) with
 | true =>
  have e:AC k t=((uG t).2==0||Num.yE t != 0):=by unfold AC;rw [d1,d2];rfl
  rw [e];generalize uG t=vq at *;generalize Num.yE t=nk at *;cases e1:(vq.2==0)
  ·go_enter Tryz.func35,Tryz.ntmps35;go_wp2_with (first|(go_at_call 48;refine hVl.mono ?_;rintro e w1 ⟨rfl,hb1⟩)|(go_at_call 49;refine (hKd _).mono ?_;rintro e w2 ⟨rfl,hb2⟩));go_ret;exact⟨rfl,dA hb1 hb2⟩
  ·go_enter Tryz.func35,Tryz.ntmps35;go_wp2_with (first|(go_at_call 48;refine hVl.mono ?_;rintro e w1 ⟨rfl,hb1⟩)|(go_at_call 49;refine (hKd _).mono ?_;rintro e w2 ⟨rfl,hb2⟩));go_ret;exact⟨rfl,hb1⟩
 | false =>
 cases d3:(k==5) with
 | true =>
  have e:AC k t=(t==[]||t==[46]):=by unfold AC;rw [d1,d2,d3];rfl
  rw [e];cases e1:(t==[]) <;> cases e2:(t==[46])
  all_goals
   go_enter Tryz.func35,Tryz.ntmps35;go_wp2_with fail;go_ret;exact⟨rfl,hb⟩
 | false =>
 cases d4:(k==7) with
 | true =>
  have e:AC k t=(t==[]||t==[61]):=by unfold AC;rw [d1,d2,d3,d4];rfl
  rw [e];cases e1:(t==[]) <;> cases e2:(t==[61])
  all_goals
   go_enter Tryz.func35,Tryz.ntmps35;go_wp2_with fail;go_ret;exact⟨rfl,hb⟩
 | false =>
 cases d5:(k==15||k==34) with
 | true =>
  have e:AC k t=(t==[]||t==[46,46,46]):=by unfold AC;rw [d1,d2,d3,d4,d5];rfl
  rw [e];have d6:(k==15)=true∨(k==15)=false/\(k==34)=true:=by cases h:(k==15) <;> simp_all
  clear d5 e;rcases d6 with d6|⟨d6,d7⟩ <;> cases e1:(t==[]) <;> cases e2:(t==[46,46,46])
  all_goals
   go_enter Tryz.func35,Tryz.ntmps35;go_wp2_with fail;go_ret;exact⟨rfl,hb⟩
 | false =>
 have d6:(k==15)=false:=by cases h:(k==15) <;> simp_all
 have d7:(k==34)=false:=by cases h:(k==34) <;> simp_all
 cases d8:(k==66) with
 | true =>
  have e:AC k t=(t==[]||t==[61]||t==[58,61]):=Ia
  rw [e];clear d5;cases e1:(t==[]) <;> cases e2:(t==[61]) <;> cases e3:(t==[58,61])
  all_goals
   go_enter Tryz.func35,Tryz.ntmps35;go_wp2_with fail;go_ret;exact⟨rfl,hb⟩
 | false =>
 have e:AC k t=if wG k==[] then t==[] else !(t==[])&&!decide (0<=Lib.indexByte t 32)&&Lib.contains (wG k) (32::(t++[32])):=Ia
 rw [e];clear d5 e;generalize wG k=ws at *;cases d9:(ws==[]) with
 | true =>
  rw [if_pos rfl];go_enter Tryz.func35,Tryz.ntmps35;go_wp2_with (go_at_call 50;refine (hWd _).mono ?_;rintro e w1 ⟨rfl,hw1⟩;replace hw1:=hw1.symm;subst hw1);go_ret;refine⟨?_,hb⟩;cases t <;> rfl
 | false =>
  rw [if_neg Cm];generalize Lib.contains ws (32::(t++[32]))=cn at *;simp only [] at hC1;generalize decide (0<=Lib.indexByte t 32)=ib at *;cases e1:(t==[]) <;> cases ib
  all_goals
   go_enter Tryz.func35,Tryz.ntmps35;go_wp2_with (first|(go_at_call 50;refine (hWd _).mono ?_;rintro e w1 ⟨rfl,hw1⟩;replace hw1:=hw1.symm;subst hw1)|(go_at_call 45;refine (hC1 _).mono ?_;rintro e w2 ⟨rfl,hw2⟩;replace hw2:=hw2.symm;subst hw2)|(go_at_call 45;refine (hC2 _ HMX.out).mono ?_;rintro e w3 ⟨rfl,hw3⟩;replace hw3:=hw3.symm;subst hw3));go_ret;exact⟨rfl,hb⟩
end
section
open Go.RowKit
variable {w:World}
def AE (p:Grd.Pt):Bool:=!decide (68 < (p.k.toNat:Int))&&!decide (p.n < (gD p.k.toNat).1)&&!(decide ((gD p.k.toNat).1 < p.n)&&!(gD p.k.toNat).2)&&AC p.k.toNat p.w
def fF (l:List Grd.Pt):Bool:=Grd.DG (l.map Grd.Pt.n)&&l.all AE
theorem PV (x1 x2 x3 more sp rest R:Bool) (h:((!x1&&!x2&&!(x3&&!more)&&sp)&&rest)=R):x1=true/\R=false∨x1=false/\x2=true/\R=false∨x1=false/\x2=false/\x3=true/\more=false/\R=false∨x1=false/\x2=false/\x3=true/\more=true/\(sp&&rest)=R∨x1=false/\x2=false/\x3=false/\(sp&&rest)=R:=by
 subst h;cases x1 <;> cases x2 <;> cases x3 <;> cases more <;> simp
theorem qF (a:Option Addr) (cap:Nat) (l:List Grd.Pt) (hl:l.length<=1000000000) (h:Grd.tB w a l) (hw:∀ p∈l,p.w.length<=1048576) (hT:NC w) :
  Calls Tryz.prog 22 #[.slice a l.length cap] w (fun e w'=>e=.returned (.int .i64 (if fF l then 0 else 8))/\Below w.heap.size w w'):=by
 have hWl:=Grd.nW a cap l w Cf h;have hC:fF l=(Grd.DG (l.map Grd.Pt.n)&&l.all AE):=rfl;rw [hC];clear hC;generalize Grd.DG (l.map Grd.Pt.n)=wl at *;have HT:=hid hT;have HP:=hid h;clear hT h;cases wl with
 | false =>
  rw [Bool.false_and,if_neg Cm];go_enter Tryz.func22,Tryz.ntmps22;go_wp2_with (go_at_call 33;refine hWl.mono ?_;rintro e w1 ⟨rfl,hb1⟩);go_ret;exact⟨rfl,hb1⟩
 | true =>
 rw [Bool.true_and];obtain⟨R,hRR⟩:∃ R,R=l.all AE:=⟨_,rfl⟩;rw [<- hRR];have HRR:=hid hRR;obtain⟨Z,hZ⟩:∃ Z:Int,Z=if R=true then 0 else 8:=⟨_,rfl⟩
 rw [<- hZ];have HZ:=hid hZ;clear hRR hZ;go_enter Tryz.func22,Tryz.ntmps22;go_wp2_with (go_at_call 33;refine hWl.mono ?_;rintro e w1 ⟨rfl,hb1⟩)
 go_loopg [12] l.length (fun j v12 wr=>∃ i:Nat,v12=.int .i64 (i:Int)/\i+j=l.length/\Below w.heap.size w wr/\(l.drop i).all AE=R)
 case atStart=>exact⟨0,rfl,Cf,hb1,HRR.out.symm⟩
 case round =>
  obtain⟨i,rfl,hj,hB,hR⟩:=hrel;by_cases hi:i < l.length
  ·have d0:decide ((i:Int) < (l.length:Int))=true:=by simpa using hi
   obtain⟨p,hp⟩:∃ p,l[i]?=some p:=⟨l[i],M' hi⟩;have hpw:=hw p (List.mem_of_getElem? hp);rcases HP.out with he|⟨b,off,hab,hbl,hcl⟩
   ·rw [he] at hi;exact absurd hi Cm
   subst hab;obtain⟨y0,y1,y2⟩:=hcl i p hp;have z0:=(hB.cell (p:=⟨b,off+i*3,none⟩) hbl).trans y0;have z1:=(hB.cell (p:=⟨b,off+i*3+1,none⟩) hbl).trans y1;have z2:=(hB.cell (p:=⟨b,off+i*3+2,none⟩) hbl).trans y2;have hdr:l.drop i=p::l.drop (i+1):=by
    rw [M' hi] at hp;cases hp;exact An hi
   rw [hdr,List.all_cons] at hR;have hnw:=heap_alloc_new wr (Obj.cells #[.int .u8 (p.k.toNat:Int),.int .i64 p.n,.string ⟨p.w.toArray⟩] 46);obtain⟨t0,t1,t2,_⟩:=uA hnw;have hB4:=hB.alloc hB.size (Obj.cells #[.int .u8 (p.k.toNat:Int),.int .i64 p.n,.string ⟨p.w.toArray⟩] 46);have hAr:=fun w=>xQ (w:=w) (p.k.toNat:Int)
   have hSp:=fun w hT=>oQ (w:=w) (p.k.toNat:Int) p.w hpw hT
   have hok:AE p=(!decide (68 < (p.k.toNat:Int))&&!decide (p.n < (gD p.k.toNat).1)&&!(decide ((gD p.k.toNat).1 < p.n)&&!(gD p.k.toNat).2)&&AC p.k.toNat p.w):=rfl;rw [hok] at hR;generalize gD p.k.toNat=ar at *;generalize AC p.k.toNat p.w=sp at *;obtain⟨least,more⟩:=ar;simp only [] at hR hAr;have hcs:decide (68 < (p.k.toNat:Int))=true/\R=false∨decide (68 < (p.k.toNat:Int))=false/\decide (p.n < least)=true/\R=false∨decide (68 < (p.k.toNat:Int))=false/\decide (p.n < least)=false/\decide (least < p.n)=true/\more=false/\R=false∨decide (68 < (p.k.toNat:Int))=false/\decide (p.n < least)=false/\decide (least < p.n)=true/\more=true/\(sp&&(l.drop (i+1)).all AE)=R∨decide (68 < (p.k.toNat:Int))=false/\decide (p.n < least)=false/\decide (least < p.n)=false/\(sp&&(l.drop (i+1)).all AE)=R:=by
    exact PV _ _ _ _ _ _ _ hR
   have HB4:=hid hB4;clear hR hok hdr hp hcl y0 y1 y2 hB4 hB;rcases hcs with ⟨d1,hr⟩|⟨d1,d2,hr⟩|⟨d1,d2,d3,rfl,hr⟩|⟨d1,d2,d3,rfl,hr⟩|⟨d1,d2,d3,hr⟩
   iterate 3
    ·have HH:=hid hr;clear hr;go_wp2_with (go_at_call 34;refine (hAr _).mono ?_;rintro e w5 ⟨rfl,hw5⟩;replace hw5:=hw5.symm;subst hw5);go_ret;exact⟨by rw [HZ.out,HH.out];rfl,HB4.out⟩
   all_goals
    cases sp with
    | true =>
     have HH:=hid hr;clear hr;go_wp2_with (first|(go_at_call 34;refine (hAr _).mono ?_;rintro e w5 ⟨rfl,hw5⟩;replace hw5:=hw5.symm;subst hw5)|(go_at_call 35;refine (hSp _ (HT.out.below HB4.out)).mono ?_;rintro e w6 ⟨rfl,hb6⟩));go_roundg (gk - 1)
     case measure=>omega
     case rel=>exact⟨i+1,Cm,Cf,dA HB4.out hb6,by have:=HH.out;rw [Bool.true_and] at this;exact this⟩
    | false =>
     have HH:=hid hr;clear hr;go_wp2_with (first|(go_at_call 34;refine (hAr _).mono ?_;rintro e w5 ⟨rfl,hw5⟩;replace hw5:=hw5.symm;subst hw5)|(go_at_call 35;refine (hSp _ (HT.out.below HB4.out)).mono ?_;rintro e w6 ⟨rfl,hb6⟩));go_ret;exact⟨by rw [HZ.out,<- HH.out];rfl,dA HB4.out hb6⟩
  ·have d0:decide ((i:Int) < (l.length:Int))=false:=by simpa using hi
   rw [List.drop_of_length_le Cf] at hR;have HH:=hid hR;have HB:=hid hB;clear hR hB;go_wp2_with fail;go_ret;exact⟨by rw [HZ.out,<- HH.out];rfl,HB.out⟩
end
