import Derived.Lib.QuoteLoop
import Derived.WalkMore
import Derived.Test.YtcjmpafkcmlhbaaGreatDoorQAU
import Derived.Laws.IdiomStrings
import Derived.Lib.IndexLaws
import Derived.Test.YtcjmpafkcmlhbaaGreatDoorQBC
namespace Go.Proofs.YtcjmpafkcmlhbaaGreatDoor
open Lib(hid)
set_option linter.all false
set_option maxHeartbeats 40000000
set_option maxRecDepth 100000
section
open Go.RowKit
variable {w:World}
theorem EJ {l:List UInt8} (h:l≠[]):(dec l).2≤l.length:=by
  have h0:(ByteArray.mk l.toArray).size≠0:=by simpa [ByteArray.size] using h
  unfold dec Lib.decodeGo;rw [if_neg h0];have:=Lib.width_le ⟨l.toArray⟩ (by omega);simpa [ByteArray.size] using this
theorem CI (l:List UInt8):∀ (f p:Nat),DE l f p=-1∨∃ j:Nat,DE l f p=(j:Int)∧j < l.length
  | 0,_=>.inl rfl
  | f+1,p=>by
    rw [DE];split
    · split
      · exact .inr ⟨p,rfl,by assumption⟩
      · exact CI l f _
    · exact .inl rfl
theorem SL (l:List UInt8):ZJ l=-1∨∃ j:Nat,ZJ l=(j:Int)∧j < l.length:=CI l _ _
def eB (l:List UInt8):Nat→Nat→Int
  | 0,_=>-1
  | f+1,p=>if p < l.length then (if (dec (l.drop p)).1=0∨(dec (l.drop p)).1=65279∧0 < p then (p:Int) else eB l f (p+(dec (l.drop p)).2)) else -1
theorem xI {l:List UInt8}{f p:Nat} (h:¬ p < l.length):eB l f p=-1:=by
  cases f with
  | zero=>rfl
  | succ f=>simp [eB,h]
def BK (l:List UInt8):Nat:=if ZJ l < 0 then l.length else (ZJ l).toNat
def tG (l:List UInt8):Int:=if 0≤eB (l.take (BK l)) (BK l) 0 then eB (l.take (BK l)) (BK l) 0 else if BK l < l.length then (BK l:Int) else -1
theorem MR (l:List UInt8) (hs:l.length≤65536) (hT:NC w):Calls Tryz.prog 185 #[.string ⟨l.toArray⟩] w (fun e w'=>e=.returned (.int .i64 (tG l))∧Below w.heap.size w w'):=by
  have hC:=UP (w:=w) l (by omega) hT;have hbr:=SL l;have hR:∃ n,BK l=n∧n≤l.length∧((ZJ l=-1∧n=l.length)∨(ZJ l=(n:Int)∧n < l.length)):=by
    refine⟨_,rfl,?_⟩;unfold BK;rcases hbr with h|⟨j,h,hj⟩
    · rw [h];simp
    · rw [h,if_neg (by omega),Int.toNat_natCast];exact⟨by omega,.inr ⟨rfl,hj⟩⟩
  obtain⟨n,hn,hnl,hcs⟩:=hR;have hcl:tG l=if 0≤eB (l.take n) n 0 then eB (l.take n) n 0 else if n < l.length then (n:Int) else -1:=by unfold tG;rw [hn]
  rw [hcl];clear hcl hn hbr;obtain⟨b,hb⟩:∃ b,b=ZJ l:=⟨_,rfl⟩;rw [← hb] at hC hcs;clear hb;rcases hcs with ⟨rfl,hnn⟩|⟨rfl,hlt⟩
  · rw [show l.take n=l by rw [hnn,List.take_length]]
    obtain⟨R,hRR⟩:∃ R,R=eB l n 0:=⟨_,rfl⟩;rw [← hRR];have HRR:=hid hRR;clear hRR;obtain⟨Z,hZ⟩:∃ Z,Z=if 0≤R then R else if n < l.length then (n:Int) else -1:=⟨_,rfl⟩
    rw [← hZ];have HZ:=hid hZ;clear hZ;have hsz:(ByteArray.mk l.toArray).size=l.length:=by simp [ByteArray.size]
    go_enter Tryz.func185,Tryz.ntmps185;go_wp2_with (go_at_call 96;refine hC.mono ?_;rintro e w1 ⟨rfl,hb1⟩);have hlo:w.heap.size≤w1.heap.size:=hb1.size
    go_loopw [4] (fun _ wr=>∃ (pos fuel:Nat),wr.heap[w1.heap.size]?=some (.stringIter ⟨l.toArray⟩ pos)∧(w.heap.size≤w1.heap.size∧Below w.heap.size w wr)∧eB l fuel pos=R∧l.length≤pos+fuel) (fun _ wr=>l.length - wr.iterPos w1.heap.size)
    case atStart=>exact⟨0,n,World.iter_heap w1 _ 0,⟨hlo,hb1.alloc hlo _⟩,HRR.out.symm,by omega⟩
    case round =>
      obtain⟨pos,fuel,hit,⟨hlo,hbw⟩,HB,hfu⟩:=hrel;have hpos0:=tC hit;by_cases hp:pos < l.length
      · have hnx:∀ ty,(Instr.next (.pointer (some ⟨w1.heap.size,0,none⟩)) true ty).run Tryz.prog wr=_:=fun ty=>Lib.run_next_any_at wr w1.heap.size _ pos ty hit (by rw [hsz];exact hp)
        rw [RL hp] at hnx;have hwd:=eG (l:=l.drop pos) (by intro e;have:=congrArg List.length e;simp only [List.length_drop,List.length_nil] at this;omega);obtain⟨fuel,rfl⟩:∃ f',fuel=f'+1:=⟨fuel - 1,by omega⟩;have hit2:=Lib.iterAt_heap wr w1.heap.size _ pos (pos+(dec (l.drop pos)).2) hit;have hbw2:=Lib.below_iterAt hbw (k:=w1.heap.size) hlo ⟨l.toArray⟩ (pos+(dec (l.drop pos)).2);rw [eB,if_pos hp] at HB;obtain⟨d,hd⟩:∃ d,d=dec (l.drop pos):=⟨_,rfl⟩;rw [← hd] at hnx hwd hit2 hbw2 HB;obtain⟨W1,hW1⟩:∃ W1,W1=wr.iterAt w1.heap.size ⟨l.toArray⟩ (pos+d.2):=⟨_,rfl⟩;rw [← hW1] at hnx hit2 hbw2;have hR0:=HRR.out;have hcs:((d.1:Int)==0)=true∧R=pos∨((d.1:Int)==0)=false∧((d.1:Int)==65279)=true∧decide (0 < pos)=true∧R=pos∨((d.1:Int)==0)=false∧((d.1:Int)==65279)=true∧decide (0 < pos)=false∧eB l fuel (pos+d.2)=R∨((d.1:Int)==0)=false∧((d.1:Int)==65279)=false∧eB l fuel (pos+d.2)=R:=by
          simp only [beq_iff_eq,beq_eq_false_iff_ne,decide_eq_true_eq,decide_eq_false_iff_not,ne_eq];by_cases e1:d.1=0
          · rw [if_pos (.inl e1)] at HB;omega
          · by_cases e2:d.1=65279
            · by_cases e3:0 < pos
              · rw [if_pos (.inr ⟨e2,e3⟩)] at HB;omega
              · rw [if_neg (by omega)] at HB;omega
            · rw [if_neg (by omega)] at HB;omega
        have HI:=hid (And.intro hit2 (And.intro hbw2 (And.intro hpos0 (And.intro hp (And.intro hwd hfu)))));clear hit2 hbw2 hit hbw hpos0 hfu hwd hp hd hW1 hT hR0 HB;rcases hcs with ⟨d1,h1⟩|⟨d1,d2,d3,h1⟩|⟨d1,d2,d3,h1⟩|⟨d1,d2,h1⟩
        all_goals have HH:=hid h1
        all_goals clear h1
        all_goals go_wp2_with fail
        all_goals obtain⟨hit2,hbw2,hpos0,hp,hwd,hfu⟩:=HI.out
        all_goals first
          | (go_ret
             have h1:=HH.out;exact⟨by rw [HZ.out,if_pos (by omega),h1];rfl,hbw2⟩)
          | exact⟨⟨pos+d.2,fuel,hit2,⟨hlo,hbw2⟩,HH.out,by omega⟩,by rw [tC hit2,hpos0];omega⟩
      · have hnx:∀ ty,(Instr.next (.pointer (some ⟨w1.heap.size,0,none⟩)) true ty).run Tryz.prog wr=_:=fun ty=>Lib.run_next_end_at wr w1.heap.size _ pos ty hit (by rw [hsz];exact hp)
        rw [xI hp] at HB;have HB:=hid HB;have HI:=hid hbw;clear hit hbw;go_wp2_with fail;go_ret;have h1:=HB.out;exact⟨by rw [HZ.out,if_neg (by omega),if_neg (by omega)];rfl,HI.out⟩
  · skip
    obtain⟨T,hTT⟩:∃ T,T=l.take n:=⟨_,rfl⟩;rw [← hTT];have hTl:T.length=n:=by rw [hTT,List.length_take];omega
    obtain⟨R,hRR⟩:∃ R,R=eB T n 0:=⟨_,rfl⟩;rw [← hRR];have HRR:=hid hRR;clear hRR;obtain⟨Z,hZ⟩:∃ Z,Z=if 0≤R then R else if n < l.length then (n:Int) else -1:=⟨_,rfl⟩
    rw [← hZ];have HZ:=hid hZ;clear hZ;have hsz:(ByteArray.mk T.toArray).size=T.length:=by simp [ByteArray.size]
    go_enter Tryz.func185,Tryz.ntmps185;go_wp2_with (go_at_call 96;refine hC.mono ?_;rintro e w1 ⟨rfl,hb1⟩);have hlo:w.heap.size≤w1.heap.size:=hb1.size
    go_loopw [4] (fun _ wr=>∃ (pos fuel:Nat),wr.heap[w1.heap.size]?=some (.stringIter ⟨T.toArray⟩ pos)∧(w.heap.size≤w1.heap.size∧Below w.heap.size w wr)∧eB T fuel pos=R∧T.length≤pos+fuel) (fun _ wr=>T.length - wr.iterPos w1.heap.size)
    case atStart=>exact⟨0,n,by rw [hTT];exact World.iter_heap w1 _ 0,⟨hlo,hb1.alloc hlo _⟩,HRR.out.symm,by omega⟩
    case round =>
      obtain⟨pos,fuel,hit,⟨hlo,hbw⟩,HB,hfu⟩:=hrel;have hpos0:=tC hit;by_cases hp:pos < T.length
      · have hnx:∀ ty,(Instr.next (.pointer (some ⟨w1.heap.size,0,none⟩)) true ty).run Tryz.prog wr=_:=fun ty=>Lib.run_next_any_at wr w1.heap.size _ pos ty hit (by rw [hsz];exact hp)
        rw [RL hp] at hnx;have hwd:=eG (l:=T.drop pos) (by intro e;have:=congrArg List.length e;simp only [List.length_drop,List.length_nil] at this;omega);obtain⟨fuel,rfl⟩:∃ f',fuel=f'+1:=⟨fuel - 1,by omega⟩;have hit2:=Lib.iterAt_heap wr w1.heap.size _ pos (pos+(dec (T.drop pos)).2) hit;have hbw2:=Lib.below_iterAt hbw (k:=w1.heap.size) hlo ⟨T.toArray⟩ (pos+(dec (T.drop pos)).2);rw [eB,if_pos hp] at HB;obtain⟨d,hd⟩:∃ d,d=dec (T.drop pos):=⟨_,rfl⟩;rw [← hd] at hnx hwd hit2 hbw2 HB;obtain⟨W1,hW1⟩:∃ W1,W1=wr.iterAt w1.heap.size ⟨T.toArray⟩ (pos+d.2):=⟨_,rfl⟩;rw [← hW1] at hnx hit2 hbw2;have hR0:=HRR.out;have hcs:((d.1:Int)==0)=true∧R=pos∨((d.1:Int)==0)=false∧((d.1:Int)==65279)=true∧decide (0 < pos)=true∧R=pos∨((d.1:Int)==0)=false∧((d.1:Int)==65279)=true∧decide (0 < pos)=false∧eB T fuel (pos+d.2)=R∨((d.1:Int)==0)=false∧((d.1:Int)==65279)=false∧eB T fuel (pos+d.2)=R:=by
          simp only [beq_iff_eq,beq_eq_false_iff_ne,decide_eq_true_eq,decide_eq_false_iff_not,ne_eq];by_cases e1:d.1=0
          · rw [if_pos (.inl e1)] at HB;omega
          · by_cases e2:d.1=65279
            · by_cases e3:0 < pos
              · rw [if_pos (.inr ⟨e2,e3⟩)] at HB;omega
              · rw [if_neg (by omega)] at HB;omega
            · rw [if_neg (by omega)] at HB;omega
        have HI:=hid (And.intro hit2 (And.intro hbw2 (And.intro hpos0 (And.intro hp (And.intro hwd hfu)))));clear hit2 hbw2 hit hbw hpos0 hfu hwd hp hd hW1 hT hR0 HB;rcases hcs with ⟨d1,h1⟩|⟨d1,d2,d3,h1⟩|⟨d1,d2,d3,h1⟩|⟨d1,d2,h1⟩
        all_goals have HH:=hid h1
        all_goals clear h1
        all_goals go_wp2_with fail
        all_goals obtain⟨hit2,hbw2,hpos0,hp,hwd,hfu⟩:=HI.out
        all_goals first
          | (go_ret
             have h1:=HH.out;exact⟨by rw [HZ.out,if_pos (by omega),h1];rfl,hbw2⟩)
          | exact⟨⟨pos+d.2,fuel,hit2,⟨hlo,hbw2⟩,HH.out,by omega⟩,by rw [tC hit2,hpos0];omega⟩
      · have hnx:∀ ty,(Instr.next (.pointer (some ⟨w1.heap.size,0,none⟩)) true ty).run Tryz.prog wr=_:=fun ty=>Lib.run_next_end_at wr w1.heap.size _ pos ty hit (by rw [hsz];exact hp)
        rw [xI hp] at HB;have HB:=hid HB;have HI:=hid hbw;clear hit hbw;go_wp2_with fail;go_ret;have h1:=HB.out;exact⟨by rw [HZ.out,if_neg (by omega),if_pos (by omega)];rfl,HI.out⟩
def VA (r:List UInt8):Nat→Nat→Nat
  | 0,_=>r.length
  | f+1,p=>if p < r.length then (if oB (dec (r.drop p)).1||digitB (dec (r.drop p)).1 then VA r f (p+(dec (r.drop p)).2) else p) else r.length
def tF (r:List UInt8):Nat:=VA r r.length 0
theorem mO {r:List UInt8}{f p:Nat} (h:¬ p < r.length):VA r f p=r.length:=by
  cases f with
  | zero=>rfl
  | succ f=>simp [VA,h]
theorem XH (r:List UInt8):∀ f p,p≤r.length→VA r f p≤r.length
  | 0,_,_=>Nat.le_refl _
  | f+1,p,h=>by
    rw [VA];split
    · split
      · have hne:r.drop p≠[]:=by intro e;have:=congrArg List.length e;simp only [List.length_drop,List.length_nil] at this;omega
        have:=EJ hne;simp only [List.length_drop] at this;exact XH r f _ (by omega)
      · exact h
    · exact Nat.le_refl _
theorem uL (r:List UInt8):tF r≤r.length:=XH r _ 0 (Nat.zero_le _)
def uI (l:List UInt8) (k:Nat):Int:=if iJ ((l.drop k).take (tF (l.drop k))) then 2 else 1
theorem YK (l:List UInt8) (k:Nat) (hs:l.length≤65536) (hk:k≤l.length):Calls Tryz.prog 249 #[.string ⟨l.toArray⟩,.int .i64 k] w (fun e w'=>e=.returned (.tuple #[.int .u8 (uI l k),.int .i64 ((k+tF (l.drop k):Nat):Int)])∧Below w.heap.size w w'):=by
  have hRl:=uL (l.drop k);rw [List.length_drop] at hRl;have hK:uI l k=if iJ ((l.drop k).take (tF (l.drop k))) then 2 else 1:=rfl
  rw [hK];clear hK;obtain⟨T,hTT⟩:∃ T,T=l.drop k:=⟨_,rfl⟩;rw [← hTT] at hRl ⊢;have hTl:T.length=l.length - k:=by rw [hTT,List.length_drop]
  have hRR:tF T=VA T T.length 0:=rfl;obtain⟨R,hR⟩:∃ R,R=tF T:=⟨_,rfl⟩;rw [← hR] at hRl hRR ⊢;obtain⟨B,hB⟩:∃ B,B=iJ (T.take R):=⟨_,rfl⟩;rw [← hB];have hWW:∀ w,Calls Tryz.prog 95 #[.string ⟨(T.take R).toArray⟩] w (fun e w'=>e=.returned (.bool B)∧w'=w):=fun w=>by rw [hB];exact PM _
  have HRR:=hid hRR;have HT:=hid hTT;have hsz:(ByteArray.mk T.toArray).size=T.length:=by simp [ByteArray.size]
  have hext:∀ n:Nat,(l.drop k).take n=T.take n:=fun n=>by rw [hTT]
  clear hB hR hRR;go_enter Tryz.func249,Tryz.ntmps249;go_wp2_with fail
  go_loopw [6] (fun v6 wr=>v6=.int .i64 (l.length:Int)∧∃ (pos fuel:Nat),wr.heap[w.heap.size]?=some (.stringIter ⟨T.toArray⟩ pos)∧Below w.heap.size w wr∧VA T fuel pos=R∧T.length≤pos+fuel) (fun _ wr=>T.length - wr.iterPos w.heap.size)
  case atStart=>exact⟨rfl,0,T.length,by rw [List.take_of_length_le (by omega)];exact World.iter_heap w _ 0,(Below.refl _ _).alloc (Nat.le_refl _) _,HRR.out.symm,by omega⟩
  case round =>
    obtain⟨rfl,pos,fuel,hit,hbw,HW,hfu⟩:=hrel;have hpos0:=tC hit;by_cases hp:pos < T.length
    · have hnx:∀ ty,(Instr.next (.pointer (some ⟨w.heap.size,0,none⟩)) true ty).run Tryz.prog wr=_:=fun ty=>Lib.run_next_any_at wr w.heap.size _ pos ty hit (by rw [hsz];exact hp)
      rw [RL hp] at hnx;have hwd:=eG (l:=T.drop pos) (by intro e;have:=congrArg List.length e;simp only [List.length_drop,List.length_nil] at this;omega);obtain⟨fuel,rfl⟩:∃ f',fuel=f'+1:=⟨fuel - 1,by omega⟩;have hit2:=Lib.iterAt_heap wr w.heap.size _ pos (pos+(dec (T.drop pos)).2) hit;have hbw2:=Lib.below_iterAt hbw (k:=w.heap.size) (Nat.le_refl _) ⟨T.toArray⟩ (pos+(dec (T.drop pos)).2);rw [VA,if_pos hp] at HW;obtain⟨d,hd⟩:∃ d,d=dec (T.drop pos):=⟨_,rfl⟩;rw [← hd] at hnx hwd hit2 hbw2 HW;obtain⟨W1,hW1⟩:∃ W1,W1=wr.iterAt w.heap.size ⟨T.toArray⟩ (pos+d.2):=⟨_,rfl⟩;rw [← hW1] at hnx hit2 hbw2;have hlt:=lt_of_block hit2;have hcs:oB d.1=true∧VA T fuel (pos+d.2)=R∨oB d.1=false∧digitB d.1=true∧VA T fuel (pos+d.2)=R∨oB d.1=false∧digitB d.1=false∧R=pos:=by
        cases h1:oB d.1 <;> cases h2:digitB d.1 <;> simp_all
      have HI:=hid (And.intro hit2 (And.intro hbw2 (And.intro hpos0 (And.intro hp (And.intro hwd (And.intro hfu hlt))))));have hpl:(pos:Int) < T.length:=by omega
      clear hit2 hbw2 hit hbw hpos0 hfu hwd hp hd hW1 HW hlt hTT;rcases hcs with ⟨d1,h1⟩|⟨d1,d2,h1⟩|⟨d1,d2,h1⟩
      · have HH:=hid h1
        clear h1;go_wp2_with (go_at_call 97;refine (XA _).mono ?_;rintro e w2 ⟨rfl,hb2⟩);obtain⟨hit2,hbw2,hpos0,hp,hwd,hfu,hlt⟩:=HI.out;have hit3:=(hb2.block _ hlt).trans hit2;exact⟨⟨rfl,pos+d.2,fuel,hit3,dA hbw2 hb2,HH.out,by omega⟩,by rw [tC hit3,hpos0];omega⟩
      · have HH:=hid h1
        clear h1;go_wp2_with (first|(go_at_call 97;refine (XA _).mono ?_;rintro e w2 ⟨rfl,hb2⟩)|(go_at_call 98;refine (aH _).mono ?_;rintro e w3 ⟨rfl,rfl⟩));obtain⟨hit2,hbw2,hpos0,hp,hwd,hfu,hlt⟩:=HI.out;have hit3:=(hb2.block _ hlt).trans hit2;exact⟨⟨rfl,pos+d.2,fuel,hit3,dA hbw2 hb2,HH.out,by omega⟩,by rw [tC hit3,hpos0];omega⟩
      · subst h1
        have hwr:IntKind.i64.wrap ((k:Int)+(R:Int))=(k:Int)+(R:Int):=IntWalk.i64_in _ (by omega);have hw0:0≤(k:Int)+(R:Int):=by omega
        have hw1:(k:Int)+(R:Int)≤(l.length:Int):=by omega
        have hw2:(k:Int)≤(k:Int)+(R:Int):=by omega
        have hw3:((k:Int)+(R:Int)).toNat - k=R:=by omega
        cases B with
        | true =>
          go_wp2_with (first|(go_at_call 97;refine (XA _).mono ?_;rintro e w2 ⟨rfl,hb2⟩)|(go_at_call 98;refine (aH _).mono ?_;rintro e w3 ⟨rfl,rfl⟩)|(go_at_call 95;refine (hWW _).mono ?_;rintro e w4 ⟨rfl,rfl⟩));go_ret2;exact⟨rfl,dA HI.out.2.1 hb2⟩
        | false =>
          go_wp2_with (first|(go_at_call 97;refine (XA _).mono ?_;rintro e w2 ⟨rfl,hb2⟩)|(go_at_call 98;refine (aH _).mono ?_;rintro e w3 ⟨rfl,rfl⟩)|(go_at_call 95;refine (hWW _).mono ?_;rintro e w4 ⟨rfl,rfl⟩));go_ret2;exact⟨rfl,dA HI.out.2.1 hb2⟩
    · have hnx:∀ ty,(Instr.next (.pointer (some ⟨w.heap.size,0,none⟩)) true ty).run Tryz.prog wr=_:=fun ty=>Lib.run_next_end_at wr w.heap.size _ pos ty hit (by rw [hsz];exact hp)
      rw [mO hp] at HW;have hRk:k+R=l.length:=by omega
      have hw3:l.length - k=R:=by omega
      have hkl:(k:Int)≤(l.length:Int):=by omega
      have HI:=hid hbw;have HE:=hid (show (k:Int)+(R:Int)=(l.length:Int) by omega);clear hit hbw HW hRl hRk hpos0 hfu hp;cases B with
      | true =>
        go_wp2_with (go_at_call 95;refine (hWW _).mono ?_;rintro e w4 ⟨rfl,rfl⟩);go_ret2;exact⟨by rw [HE.out];rfl,HI.out⟩
      | false =>
        go_wp2_with (go_at_call 95;refine (hWW _).mono ?_;rintro e w4 ⟨rfl,rfl⟩);go_ret2;exact⟨by rw [HE.out];rfl,HI.out⟩
def wU:List (List UInt8):=[[60,60,61],[62,62,61],[38,94,61],[46,46,46],[60,60],[62,62],[38,94],[43,61],[45,61],[42,61],[47,61],[37,61],[38,61],[124,61],[94,61],[38,38],[124,124],[60,45],[43,43],[45,45],[61,61],[33,61],[60,61],[62,61],[58,61],[43],[45],[42],[47],[37],[38],[124],[94],[60],[62],[61],[33],[126],[40],[41],[91],[93],[123],[125],[44],[46],[58]]
def IE (l:List UInt8):Nat→Nat
  | 0=>0
  | n+1=>if wU.contains (l.take (n+1)) then n+1 else IE l n
def CG (l:List UInt8):Nat:=IE l (min 3 l.length)
theorem LH (l:List UInt8):∀ n,IE l n≤n
  | 0=>Nat.le_refl _
  | n+1=>by rw [IE];split;exact Nat.le_refl _;exact Nat.le_succ_of_le (LH l n)
theorem cU (l:List UInt8) (hs:l.length≤65536):Calls Tryz.prog 252 #[.string ⟨l.toArray⟩] w (fun e w'=>e=.returned (.int .i64 ((CG l:Nat):Int))∧w'=w):=by
  have hR:CG l=IE l (min 3 l.length):=rfl;obtain⟨R,hRR⟩:∃ R,R=CG l:=⟨_,rfl⟩;rw [← hRR] at hR ⊢;clear hRR;have HR:=hid hR;have hm3:min (3:Int) (l.length:Int)=((min 3 l.length:Nat):Int):=by omega
  have hml:min 3 l.length≤l.length:=by omega
  have hm0:min 3 l.length≤3:=by omega
  generalize min 3 l.length=M at *;clear hR;go_enter Tryz.func252,Tryz.ntmps252;go_wp2_with fail;go_step3;go_wp2_with fail;go_step3;go_wp2_with fail
  go_loopg [3] M (fun j v3 wr=>v3=.int .i64 (j:Int)∧j≤M∧IE l j=R∧wr=w)
  case atStart=>exact⟨by first|rfl|rw [hm3],Nat.le_refl _,HR.out.symm,rfl⟩
  case round =>
    obtain⟨rfl,hj,hR,rfl⟩:=hrel;cases gk with
    | zero =>
      subst hR;go_wp2_with fail;rw [Exit.noGoto_ret];go_ret;exact⟨rfl,rfl⟩
    | succ i =>
      have HJ:=hid hR;clear hR;have hi1:(i:Int)+1≤l.length:=by omega
      have hi2:0≤(i:Int)+1:=by omega
      have hi3:((i:Int)+1).toNat=i+1:=by omega
      go_wp2_with fail
      all_goals first
        | (rename_i h1 h2
           exact absurd (h1.symm.trans h2) (by decide))
        | (rw [Exit.noGoto_ret]
           go_ret;have hJ:=HJ.out;rw [IE,if_pos (by simp only [wU,List.contains_cons,List.contains_nil, *,Bool.false_or,Bool.true_or,Bool.or_true])] at hJ;rw [← hJ];exact⟨rfl,rfl⟩)
        | (have hJ:=HJ.out
           rw [IE,if_neg (by simp only [wU,List.contains_cons,List.contains_nil, *,Bool.false_or,Bool.true_or,Bool.or_true];decide)] at hJ;go_roundg i
           case measure=>omega
           case rel=>exact⟨rfl,by omega,hJ,rfl⟩)
end
section
open Go.RowKit
variable {w:World}
theorem cM {base:Nat}{ov:Value}{out:List UInt8} (h:w.ownsRow base 5 1 ov out.length (Lib.byteCells out)) (j:Nat):(convert 112 9 ov).run Tryz.prog (w.drewN j)=.ok (.string ⟨out.toArray⟩) (w.drewN j):=by
 rcases h.2 with ⟨e1,e2⟩|⟨g,cap,cur,e1,e2,e3,e4,e5,e6,e7⟩
 ·have:out=[]:=List.length_eq_zero_iff.1 e2;rw [this,e1,run_convert_bytes_string (w.drewN j) _ _ 5 none 0 0 Tryz.underBs (by kernel_rfl) Tryz.underStr];simp [Conv.bytesToString]
  rfl
 ·subst e1;refine run_convert_bytes_back (w.drewN j) 112 9 5 ⟨g,0,none⟩ cap out Tryz.underBs (by kernel_rfl) Tryz.underStr (fun i hi=>?_);have hx:(Lib.byteCells out)[i]?=some (.int .u8 (out[i].toNat:Int)):=by simp [Lib.byteCells,hi]
  rw [← e7,List.getElem?_take] at hx;have hi2:i < out.length*1:=by omega
  rw [if_pos hi2] at hx;have hadd:(⟨g,0,none⟩:Addr).add i=⟨g,i,none⟩:=by unfold Addr.add;split <;> simp_all
  rw [hadd];unfold World.cell?;have e3':(w.drewN j).heap[g]?=some (.cells cur 5 (0,0)):=e3;rw [e3'];simpa using hx
theorem RC {fn:Func}{t u v x:Tmp} (h:fn.results=#[.tmp t,.tmp u,.tmp v,.tmp x]) (tmps:Array Value) (P:Program) (w:World) :
  (results fn tmps).run P w=.ok (.tuple #[tmps.getD t undef,tmps.getD u undef,tmps.getD v undef,tmps.getD x undef]) w:=by
 simp [results,h]
theorem cW (l:List UInt8) (c:UInt8):Lib.indexByte l c < l.length∨Lib.indexByte l c < 0:=by
 by_cases h:Lib.indexByte l c < 0
 ·exact .inr h
 ·left
  obtain⟨o,ho⟩:=Int.eq_ofNat_of_zero_le (Int.not_lt.1 h);have:=(Lib.indexByte_some ho).1;have:=(List.getElem?_eq_some_iff.1 this).1;omega
structure Lit where
 k:Int
 tx:Int
 v:List UInt8
 e:Int
def YA (l:List UInt8) (a:Int):Lit :=
 if h:0≤a∧a < l.length then
  if Lib.indexByte ([39,34,96]:List UInt8) (l[a.toNat]'(by omega)) < 0 then ⟨0,0,[],15⟩
  else if l[a.toNat]'(by omega)=96 then
   if Lib.indexByte (l.drop (a.toNat+1)) 96 < 0 then ⟨0,0,[],4⟩
   else ⟨7,a+Lib.indexByte (l.drop (a.toNat+1)) 96+2,Lib.replaceAll ((l.drop (a.toNat+1)).take (Lib.indexByte (l.drop (a.toNat+1)) 96).toNat) [13] [],0⟩
  else if (jC l (l[a.toNat]'(by omega)) l.length 0 ⟨a.toNat+1,[],false⟩).1 then
   ⟨if l[a.toNat]'(by omega)=34 then 7 else 6,(jC l (l[a.toNat]'(by omega)) l.length 0 ⟨a.toNat+1,[],false⟩).2.k,(jC l (l[a.toNat]'(by omega)) l.length 0 ⟨a.toNat+1,[],false⟩).2.out,0⟩
  else ⟨0,0,[],4⟩
 else ⟨0,0,[],15⟩
def Lit.val (r:Lit):Value:=.tuple #[.int .u8 r.k,.int .i64 r.tx,.string ⟨r.v.toArray⟩,.int .i64 r.e]
theorem pM (l:List UInt8) (a:Int) (hl:l.length≤1048576) (hT:NC w) :
  Calls Tryz.prog 99 #[.string ⟨l.toArray⟩,.int .i64 a] w (fun e w'=>e=.returned (YA l a).val∧Below w.heap.size w w'):=by
 have hb:=Below.refl w.heap.size w;by_cases h0:a < 0
 ·have e:YA l a=⟨0,0,[],15⟩:=by unfold YA;rw [dif_neg (by omega)]
  rw [e];go_enter Tryz.func99,Tryz.ntmps99;go_wp2_with fail
  all_goals (try simp only [Exit.inBlock,Exit.then]);refine bodyPost_ret (RC rfl _ _ _) rfl ?_
  all_goals exact⟨rfl,hb⟩
 obtain⟨k,rfl⟩:=Int.eq_ofNat_of_zero_le (Int.not_lt.1 h0);by_cases hk:k < l.length
 ·have e:YA l k=YA l k:=rfl
  conv at e=>rhs;unfold YA
  rw [dif_pos (by omega)] at e;simp only [Int.toNat_natCast] at e;have hI:=fun w=>Tryz.strings_IndexByte ⟨([39,34,96]:List UInt8).toArray⟩ (l[k].toNat:Int) w
  have hc8:((l[k].toNat:Int).toNat.toUInt8)=l[k]:=by simp
  simp only [hc8] at hI;obtain⟨ix,hix⟩:∃ ix,ix=Lib.indexByte ([39,34,96]:List UInt8) l[k]:=⟨_,rfl⟩;rw [← hix] at hI e;have HIX:=hid hix;clear hix;by_cases h1:ix < 0
  ·rw [if_pos h1] at e;rw [e];clear e;go_enter Tryz.func99,Tryz.ntmps99;go_wp2_with (go_at_call 129;refine (hI _).mono ?_;rintro e w1 ⟨rfl,rfl⟩)
   all_goals (try simp only [Exit.inBlock,Exit.then]);refine bodyPost_ret (RC rfl _ _ _) rfl ?_
   all_goals exact⟨rfl,hb⟩
  rw [if_neg h1] at e;by_cases h2:l[k]=96
  ·rw [if_pos h2] at e;have hI2:=fun w=>Tryz.strings_IndexByte ⟨(l.drop (k+1)).toArray⟩ 96 w
   have hc9:((96:Int).toNat.toUInt8)=96:=by decide
   simp only [hc9] at hI2;obtain⟨jx,hjx⟩:∃ jx,jx=Lib.indexByte (l.drop (k+1)) 96:=⟨_,rfl⟩;rw [← hjx] at hI2 e;have hjb:=cW (l.drop (k+1)) 96;rw [← hjx,List.length_drop] at hjb;have d1:l[k].toNat=96:=by rw [h2];rfl
   have hI0:=hI;replace hI:∀ w,Calls Tryz.prog 129 #[.string ⟨([39,34,96]:List UInt8).toArray⟩,.int .u8 96] w fun e w'=>e=.returned (.int .i64 ix)∧w'=w:=by
    intro w;have:=hI0 w;rw [d1] at this;exact this
   clear hI0 hjx h2;by_cases h3:jx < 0
   ·rw [if_pos h3] at e;rw [e];clear e;go_enter Tryz.func99,Tryz.ntmps99;go_wp2_with (first|(go_at_call 129;refine (hI _).mono ?_;rintro e w1 ⟨rfl,rfl⟩)|(go_at_call 129;refine (hI2 _).mono ?_;rintro e w1 ⟨rfl,rfl⟩))
    all_goals (try simp only [Exit.inBlock,Exit.then]);refine bodyPost_ret (RC rfl _ _ _) rfl ?_
    all_goals exact⟨rfl,hb⟩
   ·rw [if_neg h3] at e;obtain⟨n,rfl⟩:=Int.eq_ofNat_of_zero_le (Int.not_lt.1 h3);obtain⟨mx,hmx⟩:=hT.2;have hRA:=fun w (hm:w.cell? ⟨0,0,none⟩=some (.int .i64 mx))=>Tryz.strings_ReplaceAll ⟨((l.drop (k+1)).take n).toArray⟩ ⟨#[13]⟩ ⟨#[]⟩ mx w (by simp [ByteArray.size];omega) hm (by decide) (by simp [ByteArray.size];omega)
    rw [e];clear e;go_enter Tryz.func99,Tryz.ntmps99;go_wp2_with (first|(go_at_call 129;refine (hI _).mono ?_;rintro e w1 ⟨rfl,rfl⟩)|(go_at_call 129;refine (hI2 _).mono ?_;rintro e w1 ⟨rfl,rfl⟩)|(go_at_call 130;refine (hRA _ hmx).mono ?_;rintro e w1 ⟨rfl,hb1⟩))
    all_goals (try simp only [Exit.inBlock,Exit.then]);refine bodyPost_ret (RC rfl _ _ _) rfl ?_
    all_goals exact⟨rfl,hb1⟩
  ·rw [if_neg h2] at e;have d1:((l[k].toNat:Int)==96)=false:=by
    have:=zF l[k] 96;simp only [h2,decide_false] at this;exact this.symm
   have hT2:∀ w',Below w.heap.size w w'→NC w':=fun w' h=>hT.below h
   have HT:=hid hT2;have hIc:=hid hI;obtain⟨R,hR⟩:∃ R,R=jC l l[k] l.length 0 ⟨k+1,[],false⟩:=⟨_,rfl⟩;have hW:=fun w1 (H:Rq w.heap.size w l 0 ⟨k,[],false⟩ w1)=>GR H hl hk rfl HT.out
   simp only [← hR] at hW e;have HRR:=hid hR;have HW:=hid hW;have hq34:∀ b,decide (l[k]=34)=b→(if l[k]=34 then (7:Int) else 6)=if b then 7 else 6:=fun b h=>by subst h;simp
   have H0:∀ o,o=Obj.cells #[.string ⟨l.toArray⟩,.int .i64 (k:Int),.int .u8 0,.slice none 0 0,.bool false] 149→Rq w.heap.size w l 0 ⟨k,[],false⟩ (w.alloc o):=by
    rintro o rfl;exact⟨⟨.slice none 0 0,heap_alloc_new w _,rfl,.inl ⟨rfl,rfl⟩⟩,(Below.refl _ _).alloc (Nat.le_refl _) _⟩
   clear hW hR hT hT2;cases h5:R.1 with
   | false =>
    rw [h5,if_neg (by simp)] at e;rw [e];clear e;go_enter Tryz.func99,Tryz.ntmps99;go_wp2_with (first|(go_at_call 129;refine (hI _).mono ?_;rintro e w1 ⟨rfl,rfl⟩)|(go_at_call 131;refine (HW.out _ (H0 _ rfl)).mono ?_;rintro e w2 ⟨rfl,hR2⟩))
    all_goals (try simp only [Exit.inBlock,Exit.then]);refine bodyPost_ret (RC rfl _ _ _) rfl ?_
    all_goals exact⟨rfl,hR2.bel⟩
   | true =>
    rw [h5,if_pos rfl] at e;cases h6:((l[k].toNat:Int)==34) with
    | true =>
     rw [hq34 true (by rw [zF];exact h6),if_pos rfl] at e;rw [e];clear e hq34;go_enter Tryz.func99,Tryz.ntmps99;go_wp2_with (first|(go_at_call 129;refine (hI _).mono ?_;rintro e w1 ⟨rfl,rfl⟩)|(go_at_call 131;refine (HW.out _ (H0 _ rfl)).mono ?_;rintro e w2 ⟨rfl,hR2⟩;obtain⟨ov,hblk,hown⟩:=hR2.blk;obtain⟨c0,c1,c2,c3,c4,f1,f2,f3,f4⟩:=CA hblk;have hcv:=cM hown));go_quiet (fail);go_wp2_with fail
     (try simp only [Exit.inBlock,Exit.then]);refine bodyPost_ret (RC rfl _ _ _) rfl ?_
     exact⟨rfl,(hR2.drewN _).bel⟩
    | false =>
     rw [hq34 false (by rw [zF];exact h6),if_neg (by simp)] at e;rw [e];clear e hq34;go_enter Tryz.func99,Tryz.ntmps99;go_wp2_with (first|(go_at_call 129;refine (hI _).mono ?_;rintro e w1 ⟨rfl,rfl⟩)|(go_at_call 131;refine (HW.out _ (H0 _ rfl)).mono ?_;rintro e w2 ⟨rfl,hR2⟩;obtain⟨ov,hblk,hown⟩:=hR2.blk;obtain⟨c0,c1,c2,c3,c4,f1,f2,f3,f4⟩:=CA hblk;have hcv:=cM hown));go_quiet (fail);go_wp2_with fail
     (try simp only [Exit.inBlock,Exit.then]);refine bodyPost_ret (RC rfl _ _ _) rfl ?_
     exact⟨rfl,(hR2.drewN _).bel⟩
 ·have e:YA l k=⟨0,0,[],15⟩:=by unfold YA;rw [dif_neg (by omega)]
  rw [e];go_enter Tryz.func99,Tryz.ntmps99;go_wp2_with fail
  all_goals (try simp only [Exit.inBlock,Exit.then]);refine bodyPost_ret (RC rfl _ _ _) rfl ?_
  all_goals exact⟨rfl,hb⟩
theorem rR (l:List UInt8) (a:Int) (hl:l.length≤1048576) (hT:NC w) :
  Calls Tryz.prog 251 #[.string ⟨l.toArray⟩,.int .i64 a] w (fun e w'=>e=.returned (.tuple #[.int .u8 (YA l a).k,.int .i64 (YA l a).tx,.int .i64 (YA l a).e])∧Below w.heap.size w w'):=by
 have hC:=pM l a hl hT;go_enter Tryz.func251,Tryz.ntmps251;go_wp2_with (go_at_call 99;refine hC.mono ?_;rintro e w1 ⟨rfl,hb⟩;simp only [Lit.val]);go_ret3;exact⟨rfl,hb⟩
def uG (l:List UInt8):List UInt8 × Int:=if (YA l 0).e=0∧(YA l 0).tx=l.length then ((YA l 0).v,0) else ([],4)
end
end Go.Proofs.YtcjmpafkcmlhbaaGreatDoor
