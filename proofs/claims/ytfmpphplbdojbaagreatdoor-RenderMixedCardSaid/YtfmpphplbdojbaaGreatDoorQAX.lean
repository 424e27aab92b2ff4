import Derived.Lib.QuoteLoop
import Derived.WalkMore
import Derived.Test.YtfmpphplbdojbaaGreatDoorQAQ
import Derived.Deep.CutRange
import Derived.BigRegion
import Derived.Test.YtfmpphplbdojbaaGreatDoorQAR
namespace Go.Proofs.YtfmpphplbdojbaaGreatDoor
open Lib(hid)
set_option linter.all false
set_option maxHeartbeats 40000000
set_option maxRecDepth 100000
section
open Go.RowKit
variable {w:World}
theorem EJ {l:List UInt8} (h:l≠[]):(dec l).2<=l.length:=by
  have h0:(ByteArray.mk l.toArray).size≠0:=Ek
  unfold dec Lib.decodeGo;rw [if_neg h0];have:=Lib.width_le ⟨l.toArray⟩ Cf;simpa [ByteArray.size] using this
theorem CI (l:List UInt8):∀ (f p:Nat),DE l f p=-1∨∃ j:Nat,DE l f p=(j:Int)/\j < l.length
  | 0,_=>.inl rfl
  | f+1,p=>by
    rw [DE];split
    · split
      · exact .inr ⟨p,rfl,Db⟩
      · exact CI l f _
    · exact .inl rfl
theorem SL (l:List UInt8):ZJ l=-1∨∃ j:Nat,ZJ l=(j:Int)/\j < l.length:=CI l _ _
def eB (l:List UInt8):Nat->Nat->Int
  | 0,_=>-1
  | f+1,p=>if p < l.length then (if (dec (l.drop p)).1=0∨(dec (l.drop p)).1=65279/\0 < p then (p:Int) else eB l f (p+(dec (l.drop p)).2)) else -1
theorem xI {l:List UInt8}{f p:Nat} (h:¬ p < l.length):eB l f p=-1:=by
  cases f with
  | zero=>rfl
  | succ f=>simp [eB,h]
def BK (l:List UInt8):Nat:=if ZJ l < 0 then l.length else (ZJ l).toNat
def tG (l:List UInt8):Int:=if 0<=eB (l.take (BK l)) (BK l) 0 then eB (l.take (BK l)) (BK l) 0 else if BK l < l.length then (BK l:Int) else -1
theorem MR (l:List UInt8) (hs:l.length<=65536) (hT:NC w):Calls Tryz.prog 178 #[.string ⟨l.toArray⟩] w (fun e w'=>e=.returned (.int .i64 (tG l))/\Below w.heap.size w w'):=by
  have hC:=UP (w:=w) l Cf hT;have hbr:=SL l;have hR:∃ n,BK l=n/\n<=l.length/\((ZJ l=-1/\n=l.length)∨(ZJ l=(n:Int)/\n < l.length)):=by
    refine⟨_,rfl,?_⟩;unfold BK;rcases hbr with h|⟨j,h,hj⟩
    · rw [h];simp
    · rw [h,if_neg Cf,Ae];exact⟨Cf,.inr ⟨rfl,hj⟩⟩
  obtain⟨n,hn,hnl,hcs⟩:=hR;have hcl:tG l=if 0<=eB (l.take n) n 0 then eB (l.take n) n 0 else if n < l.length then (n:Int) else -1:=by unfold tG;rw [hn]
  rw [hcl];clear hcl hn hbr;obtain⟨b,hb⟩:∃ b,b=ZJ l:=⟨_,rfl⟩;rw [<- hb] at hC hcs;clear hb;rcases hcs with ⟨rfl,hnn⟩|⟨rfl,hlt⟩
  · rw [show l.take n=l by rw [hnn,List.take_length]]
    obtain⟨R,hRR⟩:∃ R,R=eB l n 0:=⟨_,rfl⟩;rw [<- hRR];have HRR:=hid hRR;clear hRR;obtain⟨Z,hZ⟩:∃ Z,Z=if 0<=R then R else if n < l.length then (n:Int) else -1:=⟨_,rfl⟩
    rw [<- hZ];have HZ:=hid hZ;clear hZ;have hsz:(ByteArray.mk l.toArray).size=l.length:=Dx
    go_enter Tryz.func178,Tryz.ntmps178;go_wp2_with (go_at_call 76;refine hC.mono ?_;rintro e w1 ⟨rfl,hb1⟩);have hlo:w.heap.size<=w1.heap.size:=hb1.size
    go_loopw [4] (fun _ wr=>∃ (pos fuel:Nat),wr.heap[w1.heap.size]?=some (.stringIter ⟨l.toArray⟩ pos)/\(w.heap.size<=w1.heap.size/\Below w.heap.size w wr)/\eB l fuel pos=R/\l.length<=pos+fuel) (fun _ wr=>l.length - wr.iterPos w1.heap.size)
    case atStart=>exact⟨0,n,World.iter_heap w1 _ 0,⟨hlo,hb1.alloc hlo _⟩,HRR.out.symm,Cf⟩
    case round =>
      obtain⟨pos,fuel,hit,⟨hlo,hbw⟩,HB,hfu⟩:=hrel;have hpos0:=tC hit;by_cases hp:pos < l.length
      · have hnx:∀ ty,(Instr.next (.pointer (some ⟨w1.heap.size,0,none⟩)) true ty).run Tryz.prog wr=_:=fun ty=>Lib.run_next_any_at wr w1.heap.size _ pos ty hit Dp
        rw [RL hp] at hnx;have hwd:=eG (l:=l.drop pos) Cx;obtain⟨fuel,rfl⟩:∃ f',fuel=f'+1:=⟨fuel - 1,Cf⟩;have hit2:=Lib.iterAt_heap wr w1.heap.size _ pos (pos+(dec (l.drop pos)).2) hit;have hbw2:=Lib.below_iterAt hbw (k:=w1.heap.size) hlo ⟨l.toArray⟩ (pos+(dec (l.drop pos)).2);rw [eB,if_pos hp] at HB;obtain⟨d,hd⟩:∃ d,d=dec (l.drop pos):=⟨_,rfl⟩;rw [<- hd] at hnx hwd hit2 hbw2 HB;obtain⟨W1,hW1⟩:∃ W1,W1=wr.iterAt w1.heap.size ⟨l.toArray⟩ (pos+d.2):=⟨_,rfl⟩;rw [<- hW1] at hnx hit2 hbw2;have hR0:=HRR.out;have hcs:((d.1:Int)==0)=true/\R=pos∨((d.1:Int)==0)=false/\((d.1:Int)==65279)=true/\decide (0 < pos)=true/\R=pos∨((d.1:Int)==0)=false/\((d.1:Int)==65279)=true/\decide (0 < pos)=false/\eB l fuel (pos+d.2)=R∨((d.1:Int)==0)=false/\((d.1:Int)==65279)=false/\eB l fuel (pos+d.2)=R:=by
          simp only [beq_iff_eq,beq_eq_false_iff_ne,decide_eq_true_eq,decide_eq_false_iff_not,ne_eq];by_cases e1:d.1=0
          · rw [if_pos (.inl e1)] at HB;omega
          · by_cases e2:d.1=65279
            · by_cases e3:0 < pos
              · rw [if_pos (.inr ⟨e2,e3⟩)] at HB;omega
              ·exact Bj
            ·exact Bj
        have HI:=hid (And.intro hit2 (And.intro hbw2 (And.intro hpos0 (And.intro hp (And.intro hwd hfu)))));clear hit2 hbw2 hit hbw hpos0 hfu hwd hp hd hW1 hT hR0 HB;rcases hcs with ⟨d1,h1⟩|⟨d1,d2,d3,h1⟩|⟨d1,d2,d3,h1⟩|⟨d1,d2,h1⟩
        all_goals have HH:=hid h1
        all_goals clear h1
        all_goals go_wp2_with fail
        all_goals obtain⟨hit2,hbw2,hpos0,hp,hwd,hfu⟩:=HI.out
        all_goals first
          | (go_ret
             have h1:=HH.out;exact⟨Hz,hbw2⟩)
          | exact⟨⟨pos+d.2,fuel,hit2,⟨hlo,hbw2⟩,HH.out,Cf⟩,Hy⟩
      · have hnx:∀ ty,(Instr.next (.pointer (some ⟨w1.heap.size,0,none⟩)) true ty).run Tryz.prog wr=_:=fun ty=>Lib.run_next_end_at wr w1.heap.size _ pos ty hit Dp
        rw [xI hp] at HB;have HB:=hid HB;have HI:=hid hbw;clear hit hbw;go_wp2_with fail;go_ret;have h1:=HB.out;exact⟨by rw [HZ.out,if_neg Cf,if_neg Cf];rfl,HI.out⟩
  · skip
    obtain⟨T,hTT⟩:∃ T,T=l.take n:=⟨_,rfl⟩;rw [<- hTT];have hTl:T.length=n:=by rw [hTT,List.length_take];omega
    obtain⟨R,hRR⟩:∃ R,R=eB T n 0:=⟨_,rfl⟩;rw [<- hRR];have HRR:=hid hRR;clear hRR;obtain⟨Z,hZ⟩:∃ Z,Z=if 0<=R then R else if n < l.length then (n:Int) else -1:=⟨_,rfl⟩
    rw [<- hZ];have HZ:=hid hZ;clear hZ;have hsz:(ByteArray.mk T.toArray).size=T.length:=Dx
    go_enter Tryz.func178,Tryz.ntmps178;go_wp2_with (go_at_call 76;refine hC.mono ?_;rintro e w1 ⟨rfl,hb1⟩);have hlo:w.heap.size<=w1.heap.size:=hb1.size
    go_loopw [4] (fun _ wr=>∃ (pos fuel:Nat),wr.heap[w1.heap.size]?=some (.stringIter ⟨T.toArray⟩ pos)/\(w.heap.size<=w1.heap.size/\Below w.heap.size w wr)/\eB T fuel pos=R/\T.length<=pos+fuel) (fun _ wr=>T.length - wr.iterPos w1.heap.size)
    case atStart=>exact⟨0,n,by rw [hTT];exact World.iter_heap w1 _ 0,⟨hlo,hb1.alloc hlo _⟩,HRR.out.symm,Cf⟩
    case round =>
      obtain⟨pos,fuel,hit,⟨hlo,hbw⟩,HB,hfu⟩:=hrel;have hpos0:=tC hit;by_cases hp:pos < T.length
      · have hnx:∀ ty,(Instr.next (.pointer (some ⟨w1.heap.size,0,none⟩)) true ty).run Tryz.prog wr=_:=fun ty=>Lib.run_next_any_at wr w1.heap.size _ pos ty hit Dp
        rw [RL hp] at hnx;have hwd:=eG (l:=T.drop pos) Cx;obtain⟨fuel,rfl⟩:∃ f',fuel=f'+1:=⟨fuel - 1,Cf⟩;have hit2:=Lib.iterAt_heap wr w1.heap.size _ pos (pos+(dec (T.drop pos)).2) hit;have hbw2:=Lib.below_iterAt hbw (k:=w1.heap.size) hlo ⟨T.toArray⟩ (pos+(dec (T.drop pos)).2);rw [eB,if_pos hp] at HB;obtain⟨d,hd⟩:∃ d,d=dec (T.drop pos):=⟨_,rfl⟩;rw [<- hd] at hnx hwd hit2 hbw2 HB;obtain⟨W1,hW1⟩:∃ W1,W1=wr.iterAt w1.heap.size ⟨T.toArray⟩ (pos+d.2):=⟨_,rfl⟩;rw [<- hW1] at hnx hit2 hbw2;have hR0:=HRR.out;have hcs:((d.1:Int)==0)=true/\R=pos∨((d.1:Int)==0)=false/\((d.1:Int)==65279)=true/\decide (0 < pos)=true/\R=pos∨((d.1:Int)==0)=false/\((d.1:Int)==65279)=true/\decide (0 < pos)=false/\eB T fuel (pos+d.2)=R∨((d.1:Int)==0)=false/\((d.1:Int)==65279)=false/\eB T fuel (pos+d.2)=R:=by
          simp only [beq_iff_eq,beq_eq_false_iff_ne,decide_eq_true_eq,decide_eq_false_iff_not,ne_eq];by_cases e1:d.1=0
          · rw [if_pos (.inl e1)] at HB;omega
          · by_cases e2:d.1=65279
            · by_cases e3:0 < pos
              · rw [if_pos (.inr ⟨e2,e3⟩)] at HB;omega
              ·exact Bj
            ·exact Bj
        have HI:=hid (And.intro hit2 (And.intro hbw2 (And.intro hpos0 (And.intro hp (And.intro hwd hfu)))));clear hit2 hbw2 hit hbw hpos0 hfu hwd hp hd hW1 hT hR0 HB;rcases hcs with ⟨d1,h1⟩|⟨d1,d2,d3,h1⟩|⟨d1,d2,d3,h1⟩|⟨d1,d2,h1⟩
        all_goals have HH:=hid h1
        all_goals clear h1
        all_goals go_wp2_with fail
        all_goals obtain⟨hit2,hbw2,hpos0,hp,hwd,hfu⟩:=HI.out
        all_goals first
          | (go_ret
             have h1:=HH.out;exact⟨Hz,hbw2⟩)
          | exact⟨⟨pos+d.2,fuel,hit2,⟨hlo,hbw2⟩,HH.out,Cf⟩,Hy⟩
      · have hnx:∀ ty,(Instr.next (.pointer (some ⟨w1.heap.size,0,none⟩)) true ty).run Tryz.prog wr=_:=fun ty=>Lib.run_next_end_at wr w1.heap.size _ pos ty hit Dp
        rw [xI hp] at HB;have HB:=hid HB;have HI:=hid hbw;clear hit hbw;go_wp2_with fail;go_ret;have h1:=HB.out;exact⟨by rw [HZ.out,if_neg Cf,if_pos Cf];rfl,HI.out⟩
def VA (r:List UInt8):Nat->Nat->Nat
  | 0,_=>r.length
  | f+1,p=>if p < r.length then (if oB (dec (r.drop p)).1||digitB (dec (r.drop p)).1 then VA r f (p+(dec (r.drop p)).2) else p) else r.length
def tF (r:List UInt8):Nat:=VA r r.length 0
theorem mO {r:List UInt8}{f p:Nat} (h:¬ p < r.length):VA r f p=r.length:=by
  cases f with
  | zero=>rfl
  | succ f=>simp [VA,h]
theorem XH (r:List UInt8):∀ f p,p<=r.length->VA r f p<=r.length
  | 0,_,_=>C' _
  | f+1,p,h=>by
    rw [VA];split
    · split
      · have hne:r.drop p≠[]:=by intro e;have:=congrArg List.length e;simp only [V',Aj] at this;omega
        have:=EJ hne;simp only [V'] at this;exact XH r f _ Cf
      · exact h
    · exact C' _
theorem uL (r:List UInt8):tF r<=r.length:=XH r _ 0 (Nat.zero_le _)
def uI (l:List UInt8) (k:Nat):Int:=if iJ ((l.drop k).take (tF (l.drop k))) then 2 else 1
theorem YK (l:List UInt8) (k:Nat) (hs:l.length<=65536) (hk:k<=l.length):Calls Tryz.prog 238 #[.string ⟨l.toArray⟩,.int .i64 k] w (fun e w'=>e=.returned (.tuple #[.int .u8 (uI l k),.int .i64 ((k+tF (l.drop k):Nat):Int)])/\Below w.heap.size w w'):=by
  have hRl:=uL (l.drop k);rw [V'] at hRl;have hK:uI l k=if iJ ((l.drop k).take (tF (l.drop k))) then 2 else 1:=rfl
  rw [hK];clear hK;obtain⟨T,hTT⟩:∃ T,T=l.drop k:=⟨_,rfl⟩;rw [<- hTT] at hRl ⊢;have hTl:T.length=l.length - k:=by rw [hTT,V']
  have hRR:tF T=VA T T.length 0:=rfl;obtain⟨R,hR⟩:∃ R,R=tF T:=⟨_,rfl⟩;rw [<- hR] at hRl hRR ⊢;obtain⟨B,hB⟩:∃ B,B=iJ (T.take R):=⟨_,rfl⟩;rw [<- hB];have hWW:∀ w,Calls Tryz.prog 75 #[.string ⟨(T.take R).toArray⟩] w (fun e w'=>e=.returned (.bool B)/\w'=w):=fun w=>by rw [hB];exact PM _
  have HRR:=hid hRR;have HT:=hid hTT;have hsz:(ByteArray.mk T.toArray).size=T.length:=Dx
  have hext:∀ n:Nat,(l.drop k).take n=T.take n:=fun n=>by rw [hTT]
  clear hB hR hRR;go_enter Tryz.func238,Tryz.ntmps238;go_wp2_with fail
  go_loopw [6] (fun v6 wr=>v6=.int .i64 (l.length:Int)/\∃ (pos fuel:Nat),wr.heap[w.heap.size]?=some (.stringIter ⟨T.toArray⟩ pos)/\Below w.heap.size w wr/\VA T fuel pos=R/\T.length<=pos+fuel) (fun _ wr=>T.length - wr.iterPos w.heap.size)
  case atStart=>exact⟨rfl,0,T.length,by rw [Ar Cf];exact World.iter_heap w _ 0,(J' _ _).alloc (C' _) _,HRR.out.symm,Cf⟩
  case round =>
    obtain⟨rfl,pos,fuel,hit,hbw,HW,hfu⟩:=hrel;have hpos0:=tC hit;by_cases hp:pos < T.length
    · have hnx:∀ ty,(Instr.next (.pointer (some ⟨w.heap.size,0,none⟩)) true ty).run Tryz.prog wr=_:=fun ty=>Lib.run_next_any_at wr w.heap.size _ pos ty hit Dp
      rw [RL hp] at hnx;have hwd:=eG (l:=T.drop pos) Cx;obtain⟨fuel,rfl⟩:∃ f',fuel=f'+1:=⟨fuel - 1,Cf⟩;have hit2:=Lib.iterAt_heap wr w.heap.size _ pos (pos+(dec (T.drop pos)).2) hit;have hbw2:=Lib.below_iterAt hbw (k:=w.heap.size) (C' _) ⟨T.toArray⟩ (pos+(dec (T.drop pos)).2);rw [VA,if_pos hp] at HW;obtain⟨d,hd⟩:∃ d,d=dec (T.drop pos):=⟨_,rfl⟩;rw [<- hd] at hnx hwd hit2 hbw2 HW;obtain⟨W1,hW1⟩:∃ W1,W1=wr.iterAt w.heap.size ⟨T.toArray⟩ (pos+d.2):=⟨_,rfl⟩;rw [<- hW1] at hnx hit2 hbw2;have hlt:=lt_of_block hit2;have hcs:oB d.1=true/\VA T fuel (pos+d.2)=R∨oB d.1=false/\digitB d.1=true/\VA T fuel (pos+d.2)=R∨oB d.1=false/\digitB d.1=false/\R=pos:=by
        cases h1:oB d.1 <;> cases h2:digitB d.1 <;> simp_all
      have HI:=hid (And.intro hit2 (And.intro hbw2 (And.intro hpos0 (And.intro hp (And.intro hwd (And.intro hfu hlt))))));have hpl:(pos:Int) < T.length:=Cf
      clear hit2 hbw2 hit hbw hpos0 hfu hwd hp hd hW1 HW hlt hTT;rcases hcs with ⟨d1,h1⟩|⟨d1,d2,h1⟩|⟨d1,d2,h1⟩
      · have HH:=hid h1
        clear h1;go_wp2_with (go_at_call 77;refine (XA _).mono ?_;rintro e w2 ⟨rfl,hb2⟩);obtain⟨hit2,hbw2,hpos0,hp,hwd,hfu,hlt⟩:=HI.out;have hit3:=(hb2.block _ hlt).trans hit2;exact⟨⟨rfl,pos+d.2,fuel,hit3,dA hbw2 hb2,HH.out,Cf⟩,Gc⟩
      · have HH:=hid h1
        clear h1;go_wp2_with (first|(go_at_call 77;refine (XA _).mono ?_;rintro e w2 ⟨rfl,hb2⟩)|(go_at_call 78;refine (aH _).mono ?_;rintro e w3 ⟨rfl,rfl⟩));obtain⟨hit2,hbw2,hpos0,hp,hwd,hfu,hlt⟩:=HI.out;have hit3:=(hb2.block _ hlt).trans hit2;exact⟨⟨rfl,pos+d.2,fuel,hit3,dA hbw2 hb2,HH.out,Cf⟩,Gc⟩
      · subst h1
        have hwr:IntKind.i64.wrap ((k:Int)+(R:Int))=(k:Int)+(R:Int):=IntWalk.i64_in _ Cf;have hw0:0<=(k:Int)+(R:Int):=Cf
        have hw1:(k:Int)+(R:Int)<=(l.length:Int):=Cf
        have hw2:(k:Int)<=(k:Int)+(R:Int):=Cf
        have hw3:((k:Int)+(R:Int)).toNat - k=R:=Cf
        cases B with
        | true =>
          go_wp2_with (first|(go_at_call 77;refine (XA _).mono ?_;rintro e w2 ⟨rfl,hb2⟩)|(go_at_call 78;refine (aH _).mono ?_;rintro e w3 ⟨rfl,rfl⟩)|(go_at_call 75;refine (hWW _).mono ?_;rintro e w4 ⟨rfl,rfl⟩));go_ret2;exact⟨rfl,dA HI.out.2.1 hb2⟩
        | false =>
          go_wp2_with (first|(go_at_call 77;refine (XA _).mono ?_;rintro e w2 ⟨rfl,hb2⟩)|(go_at_call 78;refine (aH _).mono ?_;rintro e w3 ⟨rfl,rfl⟩)|(go_at_call 75;refine (hWW _).mono ?_;rintro e w4 ⟨rfl,rfl⟩));go_ret2;exact⟨rfl,dA HI.out.2.1 hb2⟩
    · have hnx:∀ ty,(Instr.next (.pointer (some ⟨w.heap.size,0,none⟩)) true ty).run Tryz.prog wr=_:=fun ty=>Lib.run_next_end_at wr w.heap.size _ pos ty hit Dp
      rw [mO hp] at HW;have hRk:k+R=l.length:=Cf
      have hw3:l.length - k=R:=Cf
      have hkl:(k:Int)<=(l.length:Int):=Cf
      have HI:=hid hbw;have HE:=hid (show (k:Int)+(R:Int)=(l.length:Int) by omega);clear hit hbw HW hRl hRk hpos0 hfu hp;cases B with
      | true =>
        go_wp2_with (go_at_call 75;refine (hWW _).mono ?_;rintro e w4 ⟨rfl,rfl⟩);go_ret2;exact⟨by rw [HE.out];rfl,HI.out⟩
      | false =>
        go_wp2_with (go_at_call 75;refine (hWW _).mono ?_;rintro e w4 ⟨rfl,rfl⟩);go_ret2;exact⟨by rw [HE.out];rfl,HI.out⟩
def wU:List (List UInt8):=[[60,60,61],[62,62,61],[38,94,61],[46,46,46],[60,60],[62,62],[38,94],[43,61],[45,61],[42,61],[47,61],[37,61],[38,61],[124,61],[94,61],[38,38],[124,124],[60,45],[43,43],[45,45],[61,61],[33,61],[60,61],[62,61],[58,61],[43],[45],[42],[47],[37],[38],[124],[94],[60],[62],[61],[33],[126],[40],[41],[91],[93],[123],[125],[44],[46],[58]]
def IE (l:List UInt8):Nat->Nat
  | 0=>0
  | n+1=>if wU.contains (l.take (n+1)) then n+1 else IE l n
def CG (l:List UInt8):Nat:=IE l (min 3 l.length)
theorem LH (l:List UInt8):∀ n,IE l n<=n
  | 0=>C' _
  | n+1=>by rw [IE];split;exact C' _;exact Nat.le_succ_of_le (LH l n)
theorem cU (l:List UInt8) (hs:l.length<=65536):Calls Tryz.prog 241 #[.string ⟨l.toArray⟩] w (fun e w'=>e=.returned (.int .i64 ((CG l:Nat):Int))/\w'=w):=by
  have hR:CG l=IE l (min 3 l.length):=rfl;obtain⟨R,hRR⟩:∃ R,R=CG l:=⟨_,rfl⟩;rw [<- hRR] at hR ⊢;clear hRR;have HR:=hid hR;have hm3:min (3:Int) (l.length:Int)=((min 3 l.length:Nat):Int):=Cf
  have hml:min 3 l.length<=l.length:=Cf
  have hm0:min 3 l.length<=3:=Cf
  generalize min 3 l.length=M at *;clear hR;go_enter Tryz.func241,Tryz.ntmps241;go_wp2_with fail;go_step3;go_wp2_with fail;go_step3;go_wp2_with fail
  go_loopg [3] M (fun j v3 wr=>v3=.int .i64 (j:Int)/\j<=M/\IE l j=R/\wr=w)
  case atStart=>exact⟨by first|rfl|rw [hm3],C' _,HR.out.symm,rfl⟩
  case round =>
    obtain⟨rfl,hj,hR,rfl⟩:=hrel;cases gk with
    | zero =>
      subst hR;go_wp2_with fail;rw [Exit.noGoto_ret];go_ret;exact⟨rfl,rfl⟩
    | succ i =>
      have HJ:=hid hR;clear hR;have hi1:(i:Int)+1<=l.length:=Cf
      have hi2:0<=(i:Int)+1:=Cf
      have hi3:((i:Int)+1).toNat=i+1:=Cf
      go_wp2_with fail
      all_goals first
        | (rename_i h1 h2
           exact absurd (h1.symm.trans h2) Ch)
        | (rw [Exit.noGoto_ret]
           go_ret;have hJ:=HJ.out;rw [IE,if_pos (by simp only [wU,List.contains_cons,List.contains_nil, *,Bool.false_or,Bool.true_or,Bool.or_true])] at hJ;rw [<- hJ];exact⟨rfl,rfl⟩)
        | (have hJ:=HJ.out
           rw [IE,if_neg (by simp only [wU,List.contains_cons,List.contains_nil, *,Bool.false_or,Bool.true_or,Bool.or_true];decide)] at hJ;go_roundg i
           case measure=>omega
           case rel=>exact⟨rfl,Cf,hJ,rfl⟩)
end
section
open Go.RowKit
variable {w:World}
theorem pX {l:List UInt8} (h:l≠[]):(dec l).2<=l.length:=by
 have h0:(ByteArray.mk l.toArray).size≠0:=Ek
 unfold dec Lib.decodeGo;rw [if_neg h0];have:=Lib.width_le ⟨l.toArray⟩ Cf;simpa [ByteArray.size] using this
def vD (l:List UInt8) (m:UInt8) (k:Nat):Nat:=if m=39 then (vB l k).2.toNat else 1
theorem oI (l:List UInt8) (k:Nat) (h:k < l.length):0<=(vB l k).2/\(vB l k).2<=l.length - k:=by
 have hne:l.drop k≠[]:=Ft
 have h1:=pX hne;simp only [V'] at h1;unfold vB;rw [if_neg Cf,Ae];split
 ·exact⟨Int.le_refl _,Cf⟩
 ·exact⟨by show (0:Int)<=_;omega,by show ((dec (l.drop k)).2:Int)<=_;omega⟩
theorem tN (l:List UInt8) (m:UInt8) (k:Nat) (h:k < l.length):vD l m k<=l.length - k:=by
 have:=oI l k h;unfold vD;split <;> omega
def PD (l:List UInt8) (m:UInt8) (q:Qs):Qs:=⟨q.k+vD l m q.k,q.out++(l.drop q.k).take (vD l m q.k),decide (vD l m q.k=0)||decide (l[q.k]?.getD 0=10)⟩
theorem IR {c:Nat}{w0:World}{l:List UInt8}{m:UInt8}{k:Nat}{out:List UInt8} (H:Rq c w0 l m ⟨k,out,false⟩ w) (hl:l.length<=1048576) (hkl:k < l.length) (ho:out.length<=4*k) (hT:NC w) :
  Calls Tryz.prog 171 #[.pointer (some ⟨c,0,none⟩)] w (fun e w'=>e=.returned (.tuple #[])/\Rq c w0 l m (PD l m ⟨k,out,false⟩) w'):=by
 have hle:=tN l m k hkl;have hr2:=oI l k hkl;have hNd:vD l m k=if m=39 then (vB l k).2.toNat else 1:=rfl
 unfold PD;simp only [];obtain⟨n,hn⟩:∃ n,n=vD l m k:=⟨_,rfl⟩;rw [<- hn] at hle hNd ⊢;have hB:(decide (n=0)||decide (l[k]?.getD 0=10))=(((n:Int)==0)||((l[k].toNat:Int)==10)):=by
  rw [M' hkl];have e1:decide (n=0)=((n:Int)==0):=by rw [Bool.eq_iff_iff];simp
  have e2:decide ((some l[k]).getD 0=10)=((l[k].toNat:Int)==10):=by
   rw [Bool.eq_iff_iff];simp only [decide_eq_true_eq,Option.getD_some,beq_iff_eq];exact⟨fun h=>by rw [h];rfl,fun h=>Av.1 (by show _=10;omega)⟩
  rw [e1,e2]
 rw [hB];obtain⟨B,hBB⟩:∃ B,B=(((n:Int)==0)||((l[k].toNat:Int)==10)):=⟨_,rfl⟩;rw [<- hBB];have HBB:=hid hBB;clear hB hBB;have HN:=hid (And.intro hNd hr2);clear hn hNd hr2;have HH:=hid H;obtain⟨ov,hblk,hown⟩:=H.blk;obtain⟨c0,c1,c2,c3,c4,f1,f2,f3,f4⟩:=CA hblk;simp only [] at c0 c1 c2 c3 c4;clear hblk hown H;go_enter Tryz.func171,Tryz.ntmps171
 go_upto_if 7 with fail
 go_cut [2] from 3 (fun v wx=>v=.int .i64 (n:Int)/\Rq c w0 l m ⟨k,out,false⟩ wx)
 case first =>
  have hread:=QI (w:=w.drew) l k Cf hT.drew;by_cases hm:m=39
  ·have d0:((m.toNat:Int)==39)=true:=by subst hm;rfl
   go_wp2_with fail
   go_region_law ((go_simp;go_at_call 116;refine hread.mono ?_;rintro e w2 ⟨rfl,hb⟩))
   all_goals
    go_wp2_with fail
    go_meet
    case rel=>exact⟨by have:=HN.out;rw [if_pos hm] at this;show Value.int _ _=_;congr 1;omega,(HH.out.drewN 1).later hb⟩
  ·have d0:((m.toNat:Int)==39)=false:=by
    rw [beq_eq_false_iff_ne];intro e;exact hm (Av.1 (by show _=39;omega))
   go_wp2_with fail
   go_meet
   case rel=>exact⟨by have:=HN.out.1;rw [if_neg hm] at this;rw [this];rfl,HH.out⟩
 case rest =>
  obtain⟨rfl,hR⟩:=hcut;have hcs:(((n:Int)==0)=true)∨(((n:Int)==0)=false/\((l[k].toNat:Int)==10)=true)∨(((n:Int)==0)=false/\((l[k].toNat:Int)==10)=false):=by
   cases ((n:Int)==0) <;> cases ((l[k].toNat:Int)==10) <;> simp
  clear c0 c1 c2 c3 c4 f1 f2 f3 f4 HH HN hT;obtain⟨ov,hblk,hown⟩:=hR.blk;obtain⟨c0,c1,c2,c3,c4,f1,f2,f3,f4⟩:=CA hblk;simp only [] at c0 c1 c2 c3 c4 hblk hown;have hwr:IntKind.i64.wrap ((k:Int)+(n:Int))=(k:Int)+(n:Int):=IntWalk.i64_in _ Cf;have hw0:0<=(k:Int)+(n:Int):=Cf
  have hw1:(k:Int)+(n:Int)<=(l.length:Int):=Cf
  have hw2:(k:Int)<=(k:Int)+(n:Int):=Cf
  have hw3:((k:Int)+(n:Int)).toNat - k=n:=Cf
  have hsz:(ByteArray.mk ((l.drop k).take n).toArray).size=n:=Fs
  obtain⟨iU,hiU,hz0,hz1,hz2⟩:=info_parts Tryz.infoU8;have HBO:=hid HBB.out;clear HBB;go_upto_region 3 with fail
  go_cut [] from 20 (fun wx=>Rq c w0 l m ⟨k,out,B⟩ wx)
  case first =>
   rcases hcs with d1|⟨d1,d2⟩|⟨d1,d2⟩
   ·have hBv:B=true:=by rw [HBO.out,d1];rfl
    go_region;go_wp2_with fail
    go_meet
    case rel=>rw [hBv];exact (Rq.bad_ hR true).drewN 1
   ·have hBv:B=true:=by rw [HBO.out,d1,d2];rfl
    go_region;go_wp2_with fail
    go_meet
    case rel=>rw [hBv];exact (Rq.bad_ hR true).drewN 1
   ·have hBv:B=false:=by rw [HBO.out,d1,d2];rfl
    go_region;go_wp2_with fail
    go_meet
    case rel=>rw [hBv];exact (Rq.bad_ hR false).drewN 1
  case rest =>
   clear c0 c1 c2 c3 c4 f1 f2 f3 f4 hcs hblk hown hR;obtain⟨ov,hblk,hown⟩:=hcut.blk;obtain⟨c0,c1,c2,c3,c4,f1,f2,f3,f4⟩:=CA hblk;simp only [] at c0 c1 c2 c3 c4 hblk hown;have hclt:=lt_of_block hblk;go_wp2_with fail;refine wp_region_held_drew (S:=fun w'=>w'.cell? ⟨c,0,none⟩=some (.string ⟨l.toArray⟩)/\w'.cell? ⟨c,1,none⟩=some (.int .i64 (k:Int))) Ci ?_ (fun hHeld=>?_)
   ·exact A6
   refine tk 0 ?_;try simp only [Act.put,ls]
   refine tk 1 ?_;try simp only [Act.put,ls]
   refine tk 2 ?_;try simp only [Act.put,ls]
   refine tk 3 ?_;try simp only [Act.put,ls]
   refine tk 5 ?_;try simp only [Act.put,ls]
   refine tk 6 ?_;try simp only [Act.put,ls]
   refine tk 7 ?_;try simp only [Act.put,ls]
   refine tk 8 ?_;try simp only [Act.put,ls]
   refine tk 9 ?_;try simp only [Act.put,ls]
   refine tk 10 ?_;try simp only [Act.put,ls]
   refine tk 11 ?_;try simp only [Act.put,ls]
   refine tk 12 ?_;try simp only [Act.put,ls]
   refine tk 13 ?_;try simp only [Act.put,ls]
   refine tk 14 ?_;try simp only [Act.put,ls]
   refine tk 15 ?_;try simp only [Act.put,ls]
   refine tk 16 ?_;try simp only [Act.put,ls]
   refine tk 17 ?_;try simp only [Act.put,ls]
   refine tk 18 ?_;try simp only [Act.put,ls]
   refine tk 19 ?_;try simp only [Act.put,ls]
   refine wpAnyH_ready (rs:=[4]) Ci Cm (AllReadyH.cons (o:=?_) ?_ (fun K hK=>?_) AllReadyH.nil)
   rotate_left
   ·exact Ax
   go_simp;go_wp2_with fail;refine hK.out _ _ ?_ (fun hHeld4=>?_)
   ·exact A6
   clear hK K
   try simp only [Act.put,N',Q',S']
   refine wpAnyH_ready (rs:=[20]) Ci Cm (AllReadyH.cons (o:=?_) ?_ (fun K hK=>?_) AllReadyH.nil)
   rotate_left
   ·exact Ax
   refine sH _ Ct _ _ _ _ Ct (c+1) 5 iU Tryz.underBs Tryz.underStr hiU hz0 hz1 hz2 ov out.length (Lib.byteCells out) Ct hown.drew ⟨((l.drop k).take n).toArray⟩ Ct I1 (by rw [hsz];omega) hclt ?_;intro v2 w2 hown2 hgrow2;obtain⟨va2,vn2,vc2,rfl⟩:=ND hown2;have hb2:=uE (by exact hblk) hown.drew hgrow2;obtain⟨k0,k1,_,k3,_,_,_,z3,_⟩:=CA hb2;have hb3:(w2.setCell ⟨c,3,none⟩ (.slice va2 vn2 vc2)).heap[c]?=some (.cells #[.string ⟨l.toArray⟩,.int .i64 (k:Int),.int .u8 (m.toNat:Int),.slice va2 vn2 vc2,.bool B] 157 (0,0)):=by rw [heap_setCell_same w2 c 3 _ _ _ hb2];rfl
   obtain⟨s0,s1,_,_,_,t1,_⟩:=CA hb3;refine hK.out _ _ ?_ (fun hHeld20=>?_)
   ·exact A6
   clear hK K
   try simp only [Act.put,N',Q',S']
   refine wpAnyH_ready (rs:=[21]) Ci Cm (AllReadyH.cons (o:=?_) ?_ (fun K hK=>?_) AllReadyH.nil)
   rotate_left
   ·exact Ax
   go_simp;go_wp2_with fail;refine hK.out _ _ ?_ (fun hHeld21=>?_)
   ·exact A6
   clear hK K
   try simp only [Act.put,N',Q',S']
   refine wpAnyH_ready (rs:=[22]) Ci Cm (AllReadyH.cons (o:=?_) ?_ (fun K hK=>?_) AllReadyH.nil)
   rotate_left
   ·exact Ax
   go_simp;go_wp2_with fail;refine hK.out _ _ ?_ (fun hHeld22=>?_)
   ·exact A6
   clear hK K
   try simp only [Act.put,N',Q',S']
   refine wpAnyH_ready (rs:=[23]) Ci Cm (AllReadyH.cons (o:=?_) ?_ (fun K hK=>?_) AllReadyH.nil)
   rotate_left
   ·exact Ax
   go_simp;go_wp2_with fail;refine hK.out _ _ ?_ (fun hHeld23=>?_)
   ·exact A6
   clear hK K
   try simp only [Act.put,N',Q',S']
   refine wpAnyH_done Ci ?_ _;go_wp2_with fail;go_end0;exact⟨rfl,Rq.at_ (Rq.push (q:=⟨k,out,B⟩) (bs:=(l.drop k).take n) hcut.bel.drew hblk hown.drew hgrow2 hown2 (by rw [hsz];simp;omega) rfl) (k+n)⟩
end
