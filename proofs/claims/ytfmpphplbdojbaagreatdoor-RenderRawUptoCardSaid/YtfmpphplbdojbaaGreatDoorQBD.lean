import Derived.Lib.QuoteLoop
import Derived.WalkMore
import Derived.Test.YtfmpphplbdojbaaGreatDoorQAV
namespace Go.Proofs.YtfmpphplbdojbaaGreatDoor
open Lib(hid)
set_option linter.all false
set_option maxHeartbeats 40000000
set_option maxRecDepth 100000
section
open Go.RowKit
variable {w:World}
theorem EJ {l:List UInt8} (h:l≠[]):(dec l).2≤l.length:=by
  have h0:(ByteArray.mk l.toArray).size≠0:=by simpa [ByteArray.size] using h
  unfold dec Lib.decodeGo;rw [if_neg h0];have:=Lib.width_le ⟨l.toArray⟩ (by omega);simpa [ByteArray.size] using this
theorem CI (l:List UInt8):∀ (f p:Nat),DE l f p=-1∨∃ j:Nat,DE l f p=(j:Int)∧j < l.length
  | 0,_=>.inl rfl
  | f+1,p=>by
    rw [DE];split
    · split
      · exact .inr ⟨p,rfl,by assumption⟩
      · exact CI l f _
    · exact .inl rfl
theorem SL (l:List UInt8):ZJ l=-1∨∃ j:Nat,ZJ l=(j:Int)∧j < l.length:=CI l _ _
def eB (l:List UInt8):Nat→Nat→Int
  | 0,_=>-1
  | f+1,p=>if p < l.length then (if (dec (l.drop p)).1=0∨(dec (l.drop p)).1=65279∧0 < p then (p:Int) else eB l f (p+(dec (l.drop p)).2)) else -1
theorem xI {l:List UInt8}{f p:Nat} (h:¬ p < l.length):eB l f p=-1:=by
  cases f with
  | zero=>rfl
  | succ f=>simp [eB,h]
def BK (l:List UInt8):Nat:=if ZJ l < 0 then l.length else (ZJ l).toNat
def tG (l:List UInt8):Int:=if 0≤eB (l.take (BK l)) (BK l) 0 then eB (l.take (BK l)) (BK l) 0 else if BK l < l.length then (BK l:Int) else -1
theorem MR (l:List UInt8) (hs:l.length≤65536) (hT:NC w):Calls Tryz.prog 178 #[.string ⟨l.toArray⟩] w (fun e w'=>e=.returned (.int .i64 (tG l))∧Below w.heap.size w w'):=by
  have hC:=UP (w:=w) l (by omega) hT;have hbr:=SL l;have hR:∃ n,BK l=n∧n≤l.length∧((ZJ l=-1∧n=l.length)∨(ZJ l=(n:Int)∧n < l.length)):=by
    refine⟨_,rfl,?_⟩;unfold BK;rcases hbr with h|⟨j,h,hj⟩
    · rw [h];simp
    · rw [h,if_neg (by omega),Int.toNat_natCast];exact⟨by omega,.inr ⟨rfl,hj⟩⟩
  obtain⟨n,hn,hnl,hcs⟩:=hR;have hcl:tG l=if 0≤eB (l.take n) n 0 then eB (l.take n) n 0 else if n < l.length then (n:Int) else -1:=by unfold tG;rw [hn]
  rw [hcl];clear hcl hn hbr;obtain⟨b,hb⟩:∃ b,b=ZJ l:=⟨_,rfl⟩;rw [← hb] at hC hcs;clear hb;rcases hcs with ⟨rfl,hnn⟩|⟨rfl,hlt⟩
  · rw [show l.take n=l by rw [hnn,List.take_length]]
    obtain⟨R,hRR⟩:∃ R,R=eB l n 0:=⟨_,rfl⟩;rw [← hRR];have HRR:=hid hRR;clear hRR;obtain⟨Z,hZ⟩:∃ Z,Z=if 0≤R then R else if n < l.length then (n:Int) else -1:=⟨_,rfl⟩
    rw [← hZ];have HZ:=hid hZ;clear hZ;have hsz:(ByteArray.mk l.toArray).size=l.length:=by simp [ByteArray.size]
    go_enter Tryz.func178,Tryz.ntmps178;go_wp2_with (go_at_call 76;refine hC.mono ?_;rintro e w1 ⟨rfl,hb1⟩);have hlo:w.heap.size≤w1.heap.size:=hb1.size
    go_loopw [4] (fun _ wr=>∃ (pos fuel:Nat),wr.heap[w1.heap.size]?=some (.stringIter ⟨l.toArray⟩ pos)∧(w.heap.size≤w1.heap.size∧Below w.heap.size w wr)∧eB l fuel pos=R∧l.length≤pos+fuel) (fun _ wr=>l.length - wr.iterPos w1.heap.size)
    case atStart=>exact⟨0,n,World.iter_heap w1 _ 0,⟨hlo,hb1.alloc hlo _⟩,HRR.out.symm,by omega⟩
    case round =>
      obtain⟨pos,fuel,hit,⟨hlo,hbw⟩,HB,hfu⟩:=hrel;have hpos0:=tC hit;by_cases hp:pos < l.length
      · have hnx:∀ ty,(Instr.next (.pointer (some ⟨w1.heap.size,0,none⟩)) true ty).run Tryz.prog wr=_:=fun ty=>Lib.run_next_any_at wr w1.heap.size _ pos ty hit (by rw [hsz];exact hp)
        rw [RL hp] at hnx;have hwd:=eG (l:=l.drop pos) (by intro e;have:=congrArg List.length e;simp only [List.length_drop,List.length_nil] at this;omega);obtain⟨fuel,rfl⟩:∃ f',fuel=f'+1:=⟨fuel - 1,by omega⟩;have hit2:=Lib.iterAt_heap wr w1.heap.size _ pos (pos+(dec (l.drop pos)).2) hit;have hbw2:=Lib.below_iterAt hbw (k:=w1.heap.size) hlo ⟨l.toArray⟩ (pos+(dec (l.drop pos)).2);rw [eB,if_pos hp] at HB;obtain⟨d,hd⟩:∃ d,d=dec (l.drop pos):=⟨_,rfl⟩;rw [← hd] at hnx hwd hit2 hbw2 HB;obtain⟨W1,hW1⟩:∃ W1,W1=wr.iterAt w1.heap.size ⟨l.toArray⟩ (pos+d.2):=⟨_,rfl⟩;rw [← hW1] at hnx hit2 hbw2;have hR0:=HRR.out;have hcs:((d.1:Int)==0)=true∧R=pos∨((d.1:Int)==0)=false∧((d.1:Int)==65279)=true∧decide (0 < pos)=true∧R=pos∨((d.1:Int)==0)=false∧((d.1:Int)==65279)=true∧decide (0 < pos)=false∧eB l fuel (pos+d.2)=R∨((d.1:Int)==0)=false∧((d.1:Int)==65279)=false∧eB l fuel (pos+d.2)=R:=by
          simp only [beq_iff_eq,beq_eq_false_iff_ne,decide_eq_true_eq,decide_eq_false_iff_not,ne_eq];by_cases e1:d.1=0
          · rw [if_pos (.inl e1)] at HB;omega
          · by_cases e2:d.1=65279
            · by_cases e3:0 < pos
              · rw [if_pos (.inr ⟨e2,e3⟩)] at HB;omega
              · rw [if_neg (by omega)] at HB;omega
            · rw [if_neg (by omega)] at HB;omega
        have HI:=hid (And.intro hit2 (And.intro hbw2 (And.intro hpos0 (And.intro hp (And.intro hwd hfu)))));clear hit2 hbw2 hit hbw hpos0 hfu hwd hp hd hW1 hT hR0 HB;rcases hcs with ⟨d1,h1⟩|⟨d1,d2,d3,h1⟩|⟨d1,d2,d3,h1⟩|⟨d1,d2,h1⟩
        all_goals have HH:=hid h1
        all_goals clear h1
        all_goals go_wp2_with fail
        all_goals obtain⟨hit2,hbw2,hpos0,hp,hwd,hfu⟩:=HI.out
        all_goals first
          | (go_ret
             have h1:=HH.out;exact⟨by rw [HZ.out,if_pos (by omega),h1];rfl,hbw2⟩)
          | exact⟨⟨pos+d.2,fuel,hit2,⟨hlo,hbw2⟩,HH.out,by omega⟩,by rw [tC hit2,hpos0];omega⟩
      · have hnx:∀ ty,(Instr.next (.pointer (some ⟨w1.heap.size,0,none⟩)) true ty).run Tryz.prog wr=_:=fun ty=>Lib.run_next_end_at wr w1.heap.size _ pos ty hit (by rw [hsz];exact hp)
        rw [xI hp] at HB;have HB:=hid HB;have HI:=hid hbw;clear hit hbw;go_wp2_with fail;go_ret;have h1:=HB.out;exact⟨by rw [HZ.out,if_neg (by omega),if_neg (by omega)];rfl,HI.out⟩
  · skip
    obtain⟨T,hTT⟩:∃ T,T=l.take n:=⟨_,rfl⟩;rw [← hTT];have hTl:T.length=n:=by rw [hTT,List.length_take];omega
    obtain⟨R,hRR⟩:∃ R,R=eB T n 0:=⟨_,rfl⟩;rw [← hRR];have HRR:=hid hRR;clear hRR;obtain⟨Z,hZ⟩:∃ Z,Z=if 0≤R then R else if n < l.length then (n:Int) else -1:=⟨_,rfl⟩
    rw [← hZ];have HZ:=hid hZ;clear hZ;have hsz:(ByteArray.mk T.toArray).size=T.length:=by simp [ByteArray.size]
    go_enter Tryz.func178,Tryz.ntmps178;go_wp2_with (go_at_call 76;refine hC.mono ?_;rintro e w1 ⟨rfl,hb1⟩);have hlo:w.heap.size≤w1.heap.size:=hb1.size
    go_loopw [4] (fun _ wr=>∃ (pos fuel:Nat),wr.heap[w1.heap.size]?=some (.stringIter ⟨T.toArray⟩ pos)∧(w.heap.size≤w1.heap.size∧Below w.heap.size w wr)∧eB T fuel pos=R∧T.length≤pos+fuel) (fun _ wr=>T.length - wr.iterPos w1.heap.size)
    case atStart=>exact⟨0,n,by rw [hTT];exact World.iter_heap w1 _ 0,⟨hlo,hb1.alloc hlo _⟩,HRR.out.symm,by omega⟩
    case round =>
      obtain⟨pos,fuel,hit,⟨hlo,hbw⟩,HB,hfu⟩:=hrel;have hpos0:=tC hit;by_cases hp:pos < T.length
      · have hnx:∀ ty,(Instr.next (.pointer (some ⟨w1.heap.size,0,none⟩)) true ty).run Tryz.prog wr=_:=fun ty=>Lib.run_next_any_at wr w1.heap.size _ pos ty hit (by rw [hsz];exact hp)
        rw [RL hp] at hnx;have hwd:=eG (l:=T.drop pos) (by intro e;have:=congrArg List.length e;simp only [List.length_drop,List.length_nil] at this;omega);obtain⟨fuel,rfl⟩:∃ f',fuel=f'+1:=⟨fuel - 1,by omega⟩;have hit2:=Lib.iterAt_heap wr w1.heap.size _ pos (pos+(dec (T.drop pos)).2) hit;have hbw2:=Lib.below_iterAt hbw (k:=w1.heap.size) hlo ⟨T.toArray⟩ (pos+(dec (T.drop pos)).2);rw [eB,if_pos hp] at HB;obtain⟨d,hd⟩:∃ d,d=dec (T.drop pos):=⟨_,rfl⟩;rw [← hd] at hnx hwd hit2 hbw2 HB;obtain⟨W1,hW1⟩:∃ W1,W1=wr.iterAt w1.heap.size ⟨T.toArray⟩ (pos+d.2):=⟨_,rfl⟩;rw [← hW1] at hnx hit2 hbw2;have hR0:=HRR.out;have hcs:((d.1:Int)==0)=true∧R=pos∨((d.1:Int)==0)=false∧((d.1:Int)==65279)=true∧decide (0 < pos)=true∧R=pos∨((d.1:Int)==0)=false∧((d.1:Int)==65279)=true∧decide (0 < pos)=false∧eB T fuel (pos+d.2)=R∨((d.1:Int)==0)=false∧((d.1:Int)==65279)=false∧eB T fuel (pos+d.2)=R:=by
          simp only [beq_iff_eq,beq_eq_false_iff_ne,decide_eq_true_eq,decide_eq_false_iff_not,ne_eq];by_cases e1:d.1=0
          · rw [if_pos (.inl e1)] at HB;omega
          · by_cases e2:d.1=65279
            · by_cases e3:0 < pos
              · rw [if_pos (.inr ⟨e2,e3⟩)] at HB;omega
              · rw [if_neg (by omega)] at HB;omega
            · rw [if_neg (by omega)] at HB;omega
        have HI:=hid (And.intro hit2 (And.intro hbw2 (And.intro hpos0 (And.intro hp (And.intro hwd hfu)))));clear hit2 hbw2 hit hbw hpos0 hfu hwd hp hd hW1 hT hR0 HB;rcases hcs with ⟨d1,h1⟩|⟨d1,d2,d3,h1⟩|⟨d1,d2,d3,h1⟩|⟨d1,d2,h1⟩
        all_goals have HH:=hid h1
        all_goals clear h1
        all_goals go_wp2_with fail
        all_goals obtain⟨hit2,hbw2,hpos0,hp,hwd,hfu⟩:=HI.out
        all_goals first
          | (go_ret
             have h1:=HH.out;exact⟨by rw [HZ.out,if_pos (by omega),h1];rfl,hbw2⟩)
          | exact⟨⟨pos+d.2,fuel,hit2,⟨hlo,hbw2⟩,HH.out,by omega⟩,by rw [tC hit2,hpos0];omega⟩
      · have hnx:∀ ty,(Instr.next (.pointer (some ⟨w1.heap.size,0,none⟩)) true ty).run Tryz.prog wr=_:=fun ty=>Lib.run_next_end_at wr w1.heap.size _ pos ty hit (by rw [hsz];exact hp)
        rw [xI hp] at HB;have HB:=hid HB;have HI:=hid hbw;clear hit hbw;go_wp2_with fail;go_ret;have h1:=HB.out;exact⟨by rw [HZ.out,if_neg (by omega),if_pos (by omega)];rfl,HI.out⟩
def VA (r:List UInt8):Nat→Nat→Nat
  | 0,_=>r.length
  | f+1,p=>if p < r.length then (if oB (dec (r.drop p)).1||digitB (dec (r.drop p)).1 then VA r f (p+(dec (r.drop p)).2) else p) else r.length
def tF (r:List UInt8):Nat:=VA r r.length 0
theorem mO {r:List UInt8}{f p:Nat} (h:¬ p < r.length):VA r f p=r.length:=by
  cases f with
  | zero=>rfl
  | succ f=>simp [VA,h]
theorem XH (r:List UInt8):∀ f p,p≤r.length→VA r f p≤r.length
  | 0,_,_=>Nat.le_refl _
  | f+1,p,h=>by
    rw [VA];split
    · split
      · have hne:r.drop p≠[]:=by intro e;have:=congrArg List.length e;simp only [List.length_drop,List.length_nil] at this;omega
        have:=EJ hne;simp only [List.length_drop] at this;exact XH r f _ (by omega)
      · exact h
    · exact Nat.le_refl _
theorem uL (r:List UInt8):tF r≤r.length:=XH r _ 0 (Nat.zero_le _)
def uI (l:List UInt8) (k:Nat):Int:=if iJ ((l.drop k).take (tF (l.drop k))) then 2 else 1
theorem YK (l:List UInt8) (k:Nat) (hs:l.length≤65536) (hk:k≤l.length):Calls Tryz.prog 238 #[.string ⟨l.toArray⟩,.int .i64 k] w (fun e w'=>e=.returned (.tuple #[.int .u8 (uI l k),.int .i64 ((k+tF (l.drop k):Nat):Int)])∧Below w.heap.size w w'):=by
  have hRl:=uL (l.drop k);rw [List.length_drop] at hRl;have hK:uI l k=if iJ ((l.drop k).take (tF (l.drop k))) then 2 else 1:=rfl
  rw [hK];clear hK;obtain⟨T,hTT⟩:∃ T,T=l.drop k:=⟨_,rfl⟩;rw [← hTT] at hRl ⊢;have hTl:T.length=l.length - k:=by rw [hTT,List.length_drop]
  have hRR:tF T=VA T T.length 0:=rfl;obtain⟨R,hR⟩:∃ R,R=tF T:=⟨_,rfl⟩;rw [← hR] at hRl hRR ⊢;obtain⟨B,hB⟩:∃ B,B=iJ (T.take R):=⟨_,rfl⟩;rw [← hB];have hWW:∀ w,Calls Tryz.prog 75 #[.string ⟨(T.take R).toArray⟩] w (fun e w'=>e=.returned (.bool B)∧w'=w):=fun w=>by rw [hB];exact PM _
  have HRR:=hid hRR;have HT:=hid hTT;have hsz:(ByteArray.mk T.toArray).size=T.length:=by simp [ByteArray.size]
  have hext:∀ n:Nat,(l.drop k).take n=T.take n:=fun n=>by rw [hTT]
  clear hB hR hRR;go_enter Tryz.func238,Tryz.ntmps238;go_wp2_with fail
  go_loopw [6] (fun v6 wr=>v6=.int .i64 (l.length:Int)∧∃ (pos fuel:Nat),wr.heap[w.heap.size]?=some (.stringIter ⟨T.toArray⟩ pos)∧Below w.heap.size w wr∧VA T fuel pos=R∧T.length≤pos+fuel) (fun _ wr=>T.length - wr.iterPos w.heap.size)
  case atStart=>exact⟨rfl,0,T.length,by rw [List.take_of_length_le (by omega)];exact World.iter_heap w _ 0,(Below.refl _ _).alloc (Nat.le_refl _) _,HRR.out.symm,by omega⟩
  case round =>
    obtain⟨rfl,pos,fuel,hit,hbw,HW,hfu⟩:=hrel;have hpos0:=tC hit;by_cases hp:pos < T.length
    · have hnx:∀ ty,(Instr.next (.pointer (some ⟨w.heap.size,0,none⟩)) true ty).run Tryz.prog wr=_:=fun ty=>Lib.run_next_any_at wr w.heap.size _ pos ty hit (by rw [hsz];exact hp)
      rw [RL hp] at hnx;have hwd:=eG (l:=T.drop pos) (by intro e;have:=congrArg List.length e;simp only [List.length_drop,List.length_nil] at this;omega);obtain⟨fuel,rfl⟩:∃ f',fuel=f'+1:=⟨fuel - 1,by omega⟩;have hit2:=Lib.iterAt_heap wr w.heap.size _ pos (pos+(dec (T.drop pos)).2) hit;have hbw2:=Lib.below_iterAt hbw (k:=w.heap.size) (Nat.le_refl _) ⟨T.toArray⟩ (pos+(dec (T.drop pos)).2);rw [VA,if_pos hp] at HW;obtain⟨d,hd⟩:∃ d,d=dec (T.drop pos):=⟨_,rfl⟩;rw [← hd] at hnx hwd hit2 hbw2 HW;obtain⟨W1,hW1⟩:∃ W1,W1=wr.iterAt w.heap.size ⟨T.toArray⟩ (pos+d.2):=⟨_,rfl⟩;rw [← hW1] at hnx hit2 hbw2;have hlt:=lt_of_block hit2;have hcs:oB d.1=true∧VA T fuel (pos+d.2)=R∨oB d.1=false∧digitB d.1=true∧VA T fuel (pos+d.2)=R∨oB d.1=false∧digitB d.1=false∧R=pos:=by
        cases h1:oB d.1 <;> cases h2:digitB d.1 <;> simp_all
      have HI:=hid (And.intro hit2 (And.intro hbw2 (And.intro hpos0 (And.intro hp (And.intro hwd (And.intro hfu hlt))))));have hpl:(pos:Int) < T.length:=by omega
      clear hit2 hbw2 hit hbw hpos0 hfu hwd hp hd hW1 HW hlt hTT;rcases hcs with ⟨d1,h1⟩|⟨d1,d2,h1⟩|⟨d1,d2,h1⟩
      · have HH:=hid h1
        clear h1;go_wp2_with (go_at_call 77;refine (XA _).mono ?_;rintro e w2 ⟨rfl,hb2⟩);obtain⟨hit2,hbw2,hpos0,hp,hwd,hfu,hlt⟩:=HI.out;have hit3:=(hb2.block _ hlt).trans hit2;exact⟨⟨rfl,pos+d.2,fuel,hit3,dA hbw2 hb2,HH.out,by omega⟩,by rw [tC hit3,hpos0];omega⟩
      · have HH:=hid h1
        clear h1;go_wp2_with (first|(go_at_call 77;refine (XA _).mono ?_;rintro e w2 ⟨rfl,hb2⟩)|(go_at_call 78;refine (aH _).mono ?_;rintro e w3 ⟨rfl,rfl⟩));obtain⟨hit2,hbw2,hpos0,hp,hwd,hfu,hlt⟩:=HI.out;have hit3:=(hb2.block _ hlt).trans hit2;exact⟨⟨rfl,pos+d.2,fuel,hit3,dA hbw2 hb2,HH.out,by omega⟩,by rw [tC hit3,hpos0];omega⟩
      · subst h1
        have hwr:IntKind.i64.wrap ((k:Int)+(R:Int))=(k:Int)+(R:Int):=IntWalk.i64_in _ (by omega);have hw0:0≤(k:Int)+(R:Int):=by omega
        have hw1:(k:Int)+(R:Int)≤(l.length:Int):=by omega
        have hw2:(k:Int)≤(k:Int)+(R:Int):=by omega
        have hw3:((k:Int)+(R:Int)).toNat - k=R:=by omega
        cases B with
        | true =>
          go_wp2_with (first|(go_at_call 77;refine (XA _).mono ?_;rintro e w2 ⟨rfl,hb2⟩)|(go_at_call 78;refine (aH _).mono ?_;rintro e w3 ⟨rfl,rfl⟩)|(go_at_call 75;refine (hWW _).mono ?_;rintro e w4 ⟨rfl,rfl⟩));go_ret2;exact⟨rfl,dA HI.out.2.1 hb2⟩
        | false =>
          go_wp2_with (first|(go_at_call 77;refine (XA _).mono ?_;rintro e w2 ⟨rfl,hb2⟩)|(go_at_call 78;refine (aH _).mono ?_;rintro e w3 ⟨rfl,rfl⟩)|(go_at_call 75;refine (hWW _).mono ?_;rintro e w4 ⟨rfl,rfl⟩));go_ret2;exact⟨rfl,dA HI.out.2.1 hb2⟩
    · have hnx:∀ ty,(Instr.next (.pointer (some ⟨w.heap.size,0,none⟩)) true ty).run Tryz.prog wr=_:=fun ty=>Lib.run_next_end_at wr w.heap.size _ pos ty hit (by rw [hsz];exact hp)
      rw [mO hp] at HW;have hRk:k+R=l.length:=by omega
      have hw3:l.length - k=R:=by omega
      have hkl:(k:Int)≤(l.length:Int):=by omega
      have HI:=hid hbw;have HE:=hid (show (k:Int)+(R:Int)=(l.length:Int) by omega);clear hit hbw HW hRl hRk hpos0 hfu hp;cases B with
      | true =>
        go_wp2_with (go_at_call 75;refine (hWW _).mono ?_;rintro e w4 ⟨rfl,rfl⟩);go_ret2;exact⟨by rw [HE.out];rfl,HI.out⟩
      | false =>
        go_wp2_with (go_at_call 75;refine (hWW _).mono ?_;rintro e w4 ⟨rfl,rfl⟩);go_ret2;exact⟨by rw [HE.out];rfl,HI.out⟩
def wU:List (List UInt8):=[[60,60,61],[62,62,61],[38,94,61],[46,46,46],[60,60],[62,62],[38,94],[43,61],[45,61],[42,61],[47,61],[37,61],[38,61],[124,61],[94,61],[38,38],[124,124],[60,45],[43,43],[45,45],[61,61],[33,61],[60,61],[62,61],[58,61],[43],[45],[42],[47],[37],[38],[124],[94],[60],[62],[61],[33],[126],[40],[41],[91],[93],[123],[125],[44],[46],[58]]
def IE (l:List UInt8):Nat→Nat
  | 0=>0
  | n+1=>if wU.contains (l.take (n+1)) then n+1 else IE l n
def CG (l:List UInt8):Nat:=IE l (min 3 l.length)
theorem LH (l:List UInt8):∀ n,IE l n≤n
  | 0=>Nat.le_refl _
  | n+1=>by rw [IE];split;exact Nat.le_refl _;exact Nat.le_succ_of_le (LH l n)
theorem cU (l:List UInt8) (hs:l.length≤65536):Calls Tryz.prog 241 #[.string ⟨l.toArray⟩] w (fun e w'=>e=.returned (.int .i64 ((CG l:Nat):Int))∧w'=w):=by
  have hR:CG l=IE l (min 3 l.length):=rfl;obtain⟨R,hRR⟩:∃ R,R=CG l:=⟨_,rfl⟩;rw [← hRR] at hR ⊢;clear hRR;have HR:=hid hR;have hm3:min (3:Int) (l.length:Int)=((min 3 l.length:Nat):Int):=by omega
  have hml:min 3 l.length≤l.length:=by omega
  have hm0:min 3 l.length≤3:=by omega
  generalize min 3 l.length=M at *;clear hR;go_enter Tryz.func241,Tryz.ntmps241;go_wp2_with fail;go_step3;go_wp2_with fail;go_step3;go_wp2_with fail
  go_loopg [3] M (fun j v3 wr=>v3=.int .i64 (j:Int)∧j≤M∧IE l j=R∧wr=w)
  case atStart=>exact⟨by first|rfl|rw [hm3],Nat.le_refl _,HR.out.symm,rfl⟩
  case round =>
    obtain⟨rfl,hj,hR,rfl⟩:=hrel;cases gk with
    | zero =>
      subst hR;go_wp2_with fail;rw [Exit.noGoto_ret];go_ret;exact⟨rfl,rfl⟩
    | succ i =>
      have HJ:=hid hR;clear hR;have hi1:(i:Int)+1≤l.length:=by omega
      have hi2:0≤(i:Int)+1:=by omega
      have hi3:((i:Int)+1).toNat=i+1:=by omega
      go_wp2_with fail
      all_goals first
        | (rename_i h1 h2
           exact absurd (h1.symm.trans h2) (by decide))
        | (rw [Exit.noGoto_ret]
           go_ret;have hJ:=HJ.out;rw [IE,if_pos (by simp only [wU,List.contains_cons,List.contains_nil, *,Bool.false_or,Bool.true_or,Bool.or_true])] at hJ;rw [← hJ];exact⟨rfl,rfl⟩)
        | (have hJ:=HJ.out
           rw [IE,if_neg (by simp only [wU,List.contains_cons,List.contains_nil, *,Bool.false_or,Bool.true_or,Bool.or_true];decide)] at hJ;go_roundg i
           case measure=>omega
           case rel=>exact⟨rfl,by omega,hJ,rfl⟩)
end
end Go.Proofs.YtfmpphplbdojbaaGreatDoor
