import Derived.Test.YtfmpphplbdojbaaGreatDoorQAJ
namespace Go.Proofs.YtfmpphplbdojbaaGreatDoor
open Lib(hid)
set_option linter.all false
set_option maxHeartbeats 40000000
set_option maxRecDepth 100000
section
open Go.RowKit
variable {E:Ev}{S:AB}{c n:Nat}{g:Bool}{w:World}
theorem TW {E:Env}{i:Int}{x:UInt8}{xs:List UInt8} (h:E.word i=x::xs):0≤i∧i.toNat < E.l.length:=by
 unfold Env.word at h;by_cases h0:i < 0
 ·rw [if_pos h0] at h;cases h
 ·rw [if_neg h0] at h;refine⟨by omega,?_⟩;rcases Nat.lt_or_ge i.toNat E.l.length with h1|h1
  ·exact h1
  ·rw [List.getElem?_eq_none h1] at h;cases h
theorem YX (h:Rd E c n g w) (i:Int):Calls Tryz.prog 143 #[.pointer (some ⟨c,0,none⟩),.int .i64 i] w (xF E c n g (.bool (E.named i)) w) :=
 (eK h i).mono fun e w' hb=>⟨hb.1,h.below hb.2,lA c hb.2⟩
theorem bH (h:Rd E c n g w) (i:Int) :
  Calls Tryz.prog 210 #[.pointer (some ⟨c,0,none⟩),.int .i64 i] w (xF E c n g (.tuple #[.int .i64 (across E.toEnv i).1,.bool (across E.toEnv i).2]) w):=by
 have H0:=Sx.start (T:=bR false) h QL rfl;by_cases hw:E.word i=[91]
 ·have hd:(E.word i==[91])=true:=by rw [hw];rfl
  obtain⟨hi0,hi1⟩:=TW hw;obtain⟨m,rfl⟩:=Int.eq_ofNat_of_zero_le hi0;simp only [Int.toNat_natCast] at hi1;have hl:E.pair.length=E.l.length:=h.prs.same;have hm:m < E.pair.length:=by omega
  obtain⟨b,o,hpa,hb,hc⟩:=h.prs.pairs m _ (List.getElem?_eq_getElem hm);have hx:=h.prs.within _ (List.getElem_mem hm);have hg:E.pair.getD (m:Int).toNat 0=E.pair[m]:=by simp [List.getD,List.getElem?_eq_getElem hm]
  have hsm:=h.lie.small;have hA:across E.toEnv (m:Int)=if E.pair[m]≠(m:Int)+1 then (E.pair[m]+1,true) else (0,false):=by
   unfold across;rw [hg];simp [hw]
  obtain⟨x1,x2⟩:=hx;generalize E.pair[m]=x at *;have b0:(0:Int)≤(m:Int):=by omega
  have b1:(m:Int) < (E.pair.length:Int):=by omega
  have b2:(m:Int)≤1099511627776:=by omega
  have hbc:b≠c:=by omega
  have HP:=hid (And.intro hpa (And.intro hb hc));by_cases he:x=(m:Int)+1
  ·have hd2:(x==(m:Int)+1)=true:=by simpa using he
   rw [if_neg (by simpa using he)] at hA;have HA:=hid hA;clear hA he hw hg hl hm hi0 hi1 hpa hc h hb hsm;go_enter Tryz.func210,Tryz.ntmps210;go_wp2_with fail;refine OA H0 _ ?_;intro w1 H1;clear H0;obtain⟨hpa,hb,hc⟩:=HP.out;have hc1:=H1.out.fr.cell (by simpa using hbc) hc;obtain⟨_,_,hp,_,_⟩:=H1.out.rd.cells;rw [hpa] at hp;clear hpa hc hb;go_wp2_with fail
   all_goals (go_ret2;exact⟨by rw [HA.out];rfl,H1.out.rd,H1.out.fr⟩)
  ·have hd2:(x==(m:Int)+1)=false:=by simpa using he
   rw [if_pos he] at hA;have HA:=hid hA;clear hA he hw hg hl hm hi0 hi1 hpa hc h hb hsm;go_enter Tryz.func210,Tryz.ntmps210;go_wp2_with fail;refine OA H0 _ ?_;intro w1 H1;clear H0;obtain⟨hpa,hb,hc⟩:=HP.out;have hc1:=H1.out.fr.cell (by simpa using hbc) hc;obtain⟨_,_,hp,_,_⟩:=H1.out.rd.cells;rw [hpa] at hp;clear hpa hc hb;go_wp2_with fail
   all_goals (go_ret2;exact⟨by rw [HA.out];rfl,H1.out.rd,H1.out.fr⟩)
 ·have hd:(E.word i==[91])=false:=by simpa using hw
  have hA:across E.toEnv i=(0,false):=by unfold across;rw [if_neg (by simp [hw])]
  have HA:=hid hA;clear hA hw h;go_enter Tryz.func210,Tryz.ntmps210;go_wp2_with fail;refine OA H0 _ ?_;intro w1 H1;clear H0;go_wp2_with fail
  all_goals (go_ret2;exact⟨by rw [HA.out];rfl,H1.out.rd,H1.out.fr⟩)
theorem WT (ws:List UInt8) (w:World):Calls Tryz.prog 152 #[.string ⟨ws.toArray⟩] w fun e w'=>e=.returned (.int .i64 (DD ws:Int))∧w=w':=by
 by_cases h0:ws=[124,124]
 ·subst h0;go_enter Tryz.func152,Tryz.ntmps152;go_wp2_with fail
  all_goals (go_ret;exact⟨rfl,rfl⟩)
 have d0:(ws==[124,124])=false:=by simpa using h0
 by_cases h1:ws=[38,38]
 ·subst h1;go_enter Tryz.func152,Tryz.ntmps152;go_wp2_with fail
  all_goals (go_ret;exact⟨rfl,rfl⟩)
 have d1:(ws==[38,38])=false:=by simpa using h1
 by_cases h2:ws=[61,61]
 ·subst h2;go_enter Tryz.func152,Tryz.ntmps152;go_wp2_with fail
  all_goals (go_ret;exact⟨rfl,rfl⟩)
 have d2:(ws==[61,61])=false:=by simpa using h2
 by_cases h3:ws=[33,61]
 ·subst h3;go_enter Tryz.func152,Tryz.ntmps152;go_wp2_with fail
  all_goals (go_ret;exact⟨rfl,rfl⟩)
 have d3:(ws==[33,61])=false:=by simpa using h3
 by_cases h4:ws=[60]
 ·subst h4;go_enter Tryz.func152,Tryz.ntmps152;go_wp2_with fail
  all_goals (go_ret;exact⟨rfl,rfl⟩)
 have d4:(ws==[60])=false:=by simpa using h4
 by_cases h5:ws=[60,61]
 ·subst h5;go_enter Tryz.func152,Tryz.ntmps152;go_wp2_with fail
  all_goals (go_ret;exact⟨rfl,rfl⟩)
 have d5:(ws==[60,61])=false:=by simpa using h5
 by_cases h6:ws=[62]
 ·subst h6;go_enter Tryz.func152,Tryz.ntmps152;go_wp2_with fail
  all_goals (go_ret;exact⟨rfl,rfl⟩)
 have d6:(ws==[62])=false:=by simpa using h6
 by_cases h7:ws=[62,61]
 ·subst h7;go_enter Tryz.func152,Tryz.ntmps152;go_wp2_with fail
  all_goals (go_ret;exact⟨rfl,rfl⟩)
 have d7:(ws==[62,61])=false:=by simpa using h7
 by_cases h8:ws=[43]
 ·subst h8;go_enter Tryz.func152,Tryz.ntmps152;go_wp2_with fail
  all_goals (go_ret;exact⟨rfl,rfl⟩)
 have d8:(ws==[43])=false:=by simpa using h8
 by_cases h9:ws=[45]
 ·subst h9;go_enter Tryz.func152,Tryz.ntmps152;go_wp2_with fail
  all_goals (go_ret;exact⟨rfl,rfl⟩)
 have d9:(ws==[45])=false:=by simpa using h9
 by_cases h10:ws=[124]
 ·subst h10;go_enter Tryz.func152,Tryz.ntmps152;go_wp2_with fail
  all_goals (go_ret;exact⟨rfl,rfl⟩)
 have d10:(ws==[124])=false:=by simpa using h10
 by_cases h11:ws=[94]
 ·subst h11;go_enter Tryz.func152,Tryz.ntmps152;go_wp2_with fail
  all_goals (go_ret;exact⟨rfl,rfl⟩)
 have d11:(ws==[94])=false:=by simpa using h11
 by_cases h12:ws=[42]
 ·subst h12;go_enter Tryz.func152,Tryz.ntmps152;go_wp2_with fail
  all_goals (go_ret;exact⟨rfl,rfl⟩)
 have d12:(ws==[42])=false:=by simpa using h12
 by_cases h13:ws=[47]
 ·subst h13;go_enter Tryz.func152,Tryz.ntmps152;go_wp2_with fail
  all_goals (go_ret;exact⟨rfl,rfl⟩)
 have d13:(ws==[47])=false:=by simpa using h13
 by_cases h14:ws=[37]
 ·subst h14;go_enter Tryz.func152,Tryz.ntmps152;go_wp2_with fail
  all_goals (go_ret;exact⟨rfl,rfl⟩)
 have d14:(ws==[37])=false:=by simpa using h14
 by_cases h15:ws=[60,60]
 ·subst h15;go_enter Tryz.func152,Tryz.ntmps152;go_wp2_with fail
  all_goals (go_ret;exact⟨rfl,rfl⟩)
 have d15:(ws==[60,60])=false:=by simpa using h15
 by_cases h16:ws=[62,62]
 ·subst h16;go_enter Tryz.func152,Tryz.ntmps152;go_wp2_with fail
  all_goals (go_ret;exact⟨rfl,rfl⟩)
 have d16:(ws==[62,62])=false:=by simpa using h16
 by_cases h17:ws=[38]
 ·subst h17;go_enter Tryz.func152,Tryz.ntmps152;go_wp2_with fail
  all_goals (go_ret;exact⟨rfl,rfl⟩)
 have d17:(ws==[38])=false:=by simpa using h17
 by_cases h18:ws=[38,94]
 ·subst h18;go_enter Tryz.func152,Tryz.ntmps152;go_wp2_with fail
  all_goals (go_ret;exact⟨rfl,rfl⟩)
 have d18:(ws==[38,94])=false:=by simpa using h18
 have hv:DD ws=0:=by unfold DD;simp [h0,h1,h2,h3,h4,h5,h6,h7,h8,h9,h10,h11,h12,h13,h14,h15,h16,h17,h18]
 have HV:=hid hv;clear hv h0 h1 h2 h3 h4 h5 h6 h7 h8 h9 h10 h11 h12 h13 h14 h15 h16 h17 h18;go_enter Tryz.func152,Tryz.ntmps152;go_wp2_with fail
 all_goals (go_ret;exact⟨by rw [HV.out];rfl,rfl⟩)
theorem pP (ws:List UInt8) (w:World):Calls Tryz.prog 255 #[.string ⟨ws.toArray⟩] w fun e w'=>e=.returned (.bool (assigns ws))∧w=w':=by
 by_cases h0:ws=[61]
 ·subst h0;go_enter Tryz.func255,Tryz.ntmps255;go_wp2_with fail
  all_goals (go_ret;exact⟨rfl,rfl⟩)
 have d0:(ws==[61])=false:=by simpa using h0
 by_cases h1:ws=[58,61]
 ·subst h1;go_enter Tryz.func255,Tryz.ntmps255;go_wp2_with fail
  all_goals (go_ret;exact⟨rfl,rfl⟩)
 have d1:(ws==[58,61])=false:=by simpa using h1
 by_cases h2:ws=[43,61]
 ·subst h2;go_enter Tryz.func255,Tryz.ntmps255;go_wp2_with fail
  all_goals (go_ret;exact⟨rfl,rfl⟩)
 have d2:(ws==[43,61])=false:=by simpa using h2
 by_cases h3:ws=[45,61]
 ·subst h3;go_enter Tryz.func255,Tryz.ntmps255;go_wp2_with fail
  all_goals (go_ret;exact⟨rfl,rfl⟩)
 have d3:(ws==[45,61])=false:=by simpa using h3
 by_cases h4:ws=[42,61]
 ·subst h4;go_enter Tryz.func255,Tryz.ntmps255;go_wp2_with fail
  all_goals (go_ret;exact⟨rfl,rfl⟩)
 have d4:(ws==[42,61])=false:=by simpa using h4
 by_cases h5:ws=[47,61]
 ·subst h5;go_enter Tryz.func255,Tryz.ntmps255;go_wp2_with fail
  all_goals (go_ret;exact⟨rfl,rfl⟩)
 have d5:(ws==[47,61])=false:=by simpa using h5
 by_cases h6:ws=[37,61]
 ·subst h6;go_enter Tryz.func255,Tryz.ntmps255;go_wp2_with fail
  all_goals (go_ret;exact⟨rfl,rfl⟩)
 have d6:(ws==[37,61])=false:=by simpa using h6
 by_cases h7:ws=[38,61]
 ·subst h7;go_enter Tryz.func255,Tryz.ntmps255;go_wp2_with fail
  all_goals (go_ret;exact⟨rfl,rfl⟩)
 have d7:(ws==[38,61])=false:=by simpa using h7
 by_cases h8:ws=[124,61]
 ·subst h8;go_enter Tryz.func255,Tryz.ntmps255;go_wp2_with fail
  all_goals (go_ret;exact⟨rfl,rfl⟩)
 have d8:(ws==[124,61])=false:=by simpa using h8
 by_cases h9:ws=[94,61]
 ·subst h9;go_enter Tryz.func255,Tryz.ntmps255;go_wp2_with fail
  all_goals (go_ret;exact⟨rfl,rfl⟩)
 have d9:(ws==[94,61])=false:=by simpa using h9
 by_cases h10:ws=[60,60,61]
 ·subst h10;go_enter Tryz.func255,Tryz.ntmps255;go_wp2_with fail
  all_goals (go_ret;exact⟨rfl,rfl⟩)
 have d10:(ws==[60,60,61])=false:=by simpa using h10
 by_cases h11:ws=[62,62,61]
 ·subst h11;go_enter Tryz.func255,Tryz.ntmps255;go_wp2_with fail
  all_goals (go_ret;exact⟨rfl,rfl⟩)
 have d11:(ws==[62,62,61])=false:=by simpa using h11
 by_cases h12:ws=[38,94,61]
 ·subst h12;go_enter Tryz.func255,Tryz.ntmps255;go_wp2_with fail
  all_goals (go_ret;exact⟨rfl,rfl⟩)
 have d12:(ws==[38,94,61])=false:=by simpa using h12
 have hv:assigns ws=false:=by unfold assigns;simp [h0,h1,h2,h3,h4,h5,h6,h7,h8,h9,h10,h11,h12]
 have HV:=hid hv;clear hv h0 h1 h2 h3 h4 h5 h6 h7 h8 h9 h10 h11 h12;go_enter Tryz.func255,Tryz.ntmps255;go_wp2_with fail
 all_goals (go_ret;exact⟨by rw [HV.out];rfl,rfl⟩)
end
section
open Go.RowKit
variable {E:Ev}{S:AB}{c n:Nat}{g:Bool}{w:World}
theorem ZO (h:Rd E c n g w) :
  Calls Tryz.prog 229 #[.pointer (some ⟨c,0,none⟩)] w (xF E c n g (.bool (bare E.toEnv n)) w):=by
 have H0:=Sx.start (T:=bR (bare E.toEnv n)) h QL rfl
 conv at H0=>arg 1;arg 8;unfold bare
 try simp only [bs,reduceCtorEq] at H0
 clear h;go_enter Tryz.func229,Tryz.ntmps229;obtain⟨_,_,_,hat2,_⟩:=H0.out.rd.cells;have hsm3:((n:Nat):Int)≤1099511627776:=by have:=H0.out.rd.at_;have:=H0.out.rd.lie.small;omega
 go_wp2_with fail;cases h1:E.named ((n:Nat):Int) with
 | true =>
  simp only [h1,bs,reduceCtorEq] at H0;refine RB H0 _ true h1 ?_;intro w4 H5;clear H0 hat2 hsm3;have HYh1:=hid h1;clear h1;obtain⟨_,_,_,hat6,_⟩:=H5.out.rd.cells;have hsm7:((n:Nat):Int)≤1099511627776:=by have:=H5.out.rd.at_;have:=H5.out.rd.lie.small;omega
  go_wp2_with fail;cases h9:E.is (n+1) [44] with
  | true =>
   have d10:(E.word (((n:Nat):Int)+1)==[44])=true:=by rw [show (((n:Nat):Int)+1)=((n+1:Nat):Int) from by omega];exact h9
   simp only [h9,bs,reduceCtorEq] at H5;clear h9;refine OA H5 _ ?_;intro w8 H11;clear H5 hat6 hsm7;go_wp2_with fail;go_ret;exact gC H11
  | false =>
   have d10:(E.word (((n:Nat):Int)+1)==[44])=false:=by rw [show (((n:Nat):Int)+1)=((n+1:Nat):Int) from by omega];exact h9
   simp only [h9,bs,reduceCtorEq] at H5;clear h9;cases h13:E.is (n+1) [41] with
   | true =>
    have d14:(E.word (((n:Nat):Int)+1)==[41])=true:=by rw [show (((n:Nat):Int)+1)=((n+1:Nat):Int) from by omega];exact h13
    simp only [h13,bs,reduceCtorEq] at H5;clear h13;refine OA H5 _ ?_;intro w12 H15;clear H5 hat6 hsm7;go_wp2_with fail;go_ret;exact gC H15
   | false =>
    have d14:(E.word (((n:Nat):Int)+1)==[41])=false:=by rw [show (((n:Nat):Int)+1)=((n+1:Nat):Int) from by omega];exact h13
    simp only [h13,bs,reduceCtorEq] at H5;clear h13;cases h17:E.is (n+1) [46] with
    | true =>
     have d18:(E.word (((n:Nat):Int)+1)==[46])=true:=by rw [show (((n:Nat):Int)+1)=((n+1:Nat):Int) from by omega];exact h17
     simp only [h17,bs,reduceCtorEq] at H5;clear h17;refine OA H5 _ ?_;intro w16 H19;clear H5 hat6 hsm7;go_wp2_with fail;go_ret;exact gC H19
    | false =>
     have d18:(E.word (((n:Nat):Int)+1)==[46])=false:=by rw [show (((n:Nat):Int)+1)=((n+1:Nat):Int) from by omega];exact h17
     simp only [h17,bs,reduceCtorEq] at H5;clear h17;refine OA H5 _ ?_;intro w20 H21;clear H5 hat6 hsm7;obtain⟨_,_,_,hat22,_⟩:=H21.out.rd.cells;have hsm23:((n:Nat):Int)≤1099511627776:=by have:=H21.out.rd.at_;have:=H21.out.rd.lie.small;omega
     go_wp2_with fail;cases h24:(across E.toEnv (((n:Nat):Int)+1)).2 with
     | true =>
      simp only [h24,bs,reduceCtorEq] at H21;refine kB H21 (by have hq:=bH H21.out.rd (((n:Nat):Int)+1);rw [h24] at hq;exact hq) ?_;intro w25 H26;clear H21 hat22 hsm23;clear h24;go_wp2_with fail;cases h27:(E.word (across E.toEnv (((n:Nat):Int)+1)).1==[44]) with
      | true =>
       simp only [h27,bs,reduceCtorEq] at H26;refine OA H26 _ ?_;intro w28 H29;clear H26;go_wp2_with fail;go_ret;exact gC H29
      | false =>
       simp only [h27,bs,reduceCtorEq] at H26;refine OA H26 _ ?_;intro w30 H31;clear H26;go_wp2_with fail;cases h32:(E.word (across E.toEnv (((n:Nat):Int)+1)).1==[41]) with
       | true =>
        simp only [h32,bs,reduceCtorEq] at H31;refine OA H31 _ ?_;intro w33 H34;clear H31;go_wp2_with fail;go_ret;exact gC H34
       | false =>
        simp only [h32,bs,reduceCtorEq] at H31;refine OA H31 _ ?_;intro w35 H36;clear H31;go_wp2_with fail;go_ret;exact gC H36
     | false =>
      simp only [h24,bs,reduceCtorEq] at H21;refine kB H21 (by have hq:=bH H21.out.rd (((n:Nat):Int)+1);rw [h24] at hq;exact hq) ?_;intro w37 H38;clear H21 hat22 hsm23;clear h24;go_wp2_with fail;go_ret;exact gC H38
 | false =>
  simp only [h1,bs,reduceCtorEq] at H0;refine RB H0 _ false h1 ?_;intro w39 H40;clear H0 hat2 hsm3;clear h1;go_wp2_with fail;go_ret;exact gC H40
theorem wR (H:aB E S) (h:Rd E c n g w) (hr:NE E.toEnv S n g≠.out) :
  Calls Tryz.prog 193 #[.pointer (some ⟨c,0,none⟩)] w (Ans E c g (NE E.toEnv S n g) w):=by
 have HD:=hid H;clear H;have H0:=Sx.start h hr rfl
 conv at H0=>arg 1;arg 8;unfold NE PB
 try simp only [bs,reduceCtorEq] at H0
 clear h hr;go_enter Tryz.func193,Tryz.ntmps193;go_wp2_with fail;refine yB H0 15 ?_;intro p w1 H2;clear H0;go_wp2_with fail;refine IA H2 0 ?_;intro q4 w3 H5;clear H2;go_wp2_with fail;cases h6:bare E.toEnv n with
 | true =>
  simp only [h6,bs,reduceCtorEq] at H5;refine kB H5 (by have hq:=ZO H5.out.rd;rw [h6] at hq;exact hq) ?_;intro w7 H8;clear H5;have HYh6:=hid h6;clear h6;go_wp2_with fail;cases h9:E.is n [46,46,46] with
  | true =>
   have d10:(E.word (n:Nat)==[46,46,46])=true:=h9;simp only [h9,bs,reduceCtorEq] at H8;have HLTh9:=hid (gA h9);have HYh9:=hid h9;clear h9;refine cA H8 ?_;intro w11 H12;clear H8;obtain⟨_,_,_,hat14,_⟩:=H12.out.rd.cells;have hsm15:((n:Nat):Int)≤1099511627776:=by have:=H12.out.rd.at_;have:=H12.out.rd.lie.small;omega
   obtain⟨_,hk17,hf18,_,_⟩:=H12.out.ex.opn.blk.cells;have hfz16:=H12.out.ex.opn.blk.free 1;have H13:=oD H12 ((n:Nat):Int);clear H12;obtain⟨_,_,_,hat21,_⟩:=H13.out.rd.cells;have hsm22:((n:Nat):Int)≤1099511627776:=by have:=H13.out.rd.at_;have:=H13.out.rd.lie.small;omega
   have hfz20:=H13.out.rd.free 3;have H19:=ZA H13 HLTh9;clear H13;obtain⟨n23,hm⟩:∃ m,m=n+1:=⟨_,rfl⟩;simp only [← hm] at H19;have HMn23:=hid hm;clear hm;go_wp2_with fail;generalize ((w11.setCell ⟨p,1,none⟩ (.int .i64 ((n:Nat):Int))).setCell ⟨c,3,none⟩ (.int .i64 (((n:Nat):Int)+1)))=w24 at *;clear hat14 hsm15 hfz16 hk17 hf18 hat21 hsm22 hfz20
   try simp only [show (((n:Nat):Int)+1)=((n23:Nat):Int) from by have:=HMn23.out;omega] at H19
   refine jA (F:=.typ) H19 HD (by decide) ⟨rfl,rfl⟩ (fun _ _ h=>⟨rfl,h⟩) ?_;intro q27 t28 n26 w25 H29;clear H19;go_wp2_with fail;refine (eA H29 (by simp)).mono ?_;rintro e wz ⟨rfl,HA⟩;clear H29;go_wp2_with fail;go_ret;exact HA.out
  | false =>
   have d10:(E.word (n:Nat)==[46,46,46])=false:=h9;simp only [h9,bs,reduceCtorEq] at H8;clear h9;refine cA H8 ?_;intro w30 H31;clear H8;go_wp2_with fail;refine jA (F:=.typ) H31 HD (by decide) ⟨rfl,rfl⟩ (fun _ _ h=>⟨rfl,h⟩) ?_;intro q34 t35 n33 w32 H36;clear H31;go_wp2_with fail;refine (eA H36 (by simp)).mono ?_;rintro e wz ⟨rfl,HA⟩;clear H36;go_wp2_with fail;go_ret;exact HA.out
 | false =>
  simp only [h6,bs,reduceCtorEq] at H5;refine kB H5 (by have hq:=ZO H5.out.rd;rw [h6] at hq;exact hq) ?_;intro w37 H38;clear H5;clear h6;have H39:=pB H38;clear H38;go_wp2_with fail;refine lG H39 (fun _ _ h=>⟨rfl,h⟩) ?_;intro q42 t43 n41 w40 H44;clear H39;go_wp2_with fail;cases h45:E.is n41 [46,46,46] with
  | true =>
   have d46:(E.word (n41:Nat)==[46,46,46])=true:=h45;simp only [h45,bs,reduceCtorEq] at H44;have HLTh45:=hid (gA h45);have HYh45:=hid h45;clear h45;refine cA H44 ?_;intro w47 H48;clear H44;obtain⟨_,_,_,hat50,_⟩:=H48.out.rd.cells;have hsm51:((n41:Nat):Int)≤1099511627776:=by have:=H48.out.rd.at_;have:=H48.out.rd.lie.small;omega
   obtain⟨_,hk53,hf54,_,_⟩:=H48.out.ex.opn.blk.cells;have hfz52:=H48.out.ex.opn.blk.free 1;have H49:=oD H48 ((n41:Nat):Int);clear H48;obtain⟨_,_,_,hat57,_⟩:=H49.out.rd.cells;have hsm58:((n41:Nat):Int)≤1099511627776:=by have:=H49.out.rd.at_;have:=H49.out.rd.lie.small;omega
   have hfz56:=H49.out.rd.free 3;have H55:=ZA H49 HLTh45;clear H49;obtain⟨n59,hm⟩:∃ m,m=n41+1:=⟨_,rfl⟩;simp only [← hm] at H55;have HMn59:=hid hm;clear hm;go_wp2_with fail;generalize ((w47.setCell ⟨p,1,none⟩ (.int .i64 ((n41:Nat):Int))).setCell ⟨c,3,none⟩ (.int .i64 (((n41:Nat):Int)+1)))=w60 at *;clear hat50 hsm51 hfz52 hk53 hf54 hat57 hsm58 hfz56
   try simp only [show (((n41:Nat):Int)+1)=((n59:Nat):Int) from by have:=HMn59.out;omega] at H55
   refine jA (F:=.typ) H55 HD (by decide) ⟨rfl,rfl⟩ (fun _ _ h=>⟨rfl,h⟩) ?_;intro q63 t64 n62 w61 H65;clear H55;go_wp2_with fail;refine (eA H65 (by simp)).mono ?_;rintro e wz ⟨rfl,HA⟩;clear H65;go_wp2_with fail;go_ret;exact HA.out
  | false =>
   have d46:(E.word (n41:Nat)==[46,46,46])=false:=h45;simp only [h45,bs,reduceCtorEq] at H44;clear h45;refine cA H44 ?_;intro w66 H67;clear H44;go_wp2_with fail;refine jA (F:=.typ) H67 HD (by decide) ⟨rfl,rfl⟩ (fun _ _ h=>⟨rfl,h⟩) ?_;intro q70 t71 n69 w68 H72;clear H67;go_wp2_with fail;refine (eA H72 (by simp)).mono ?_;rintro e wz ⟨rfl,HA⟩;clear H72;go_wp2_with fail;go_ret;exact HA.out
theorem RP (h:Rd E c n g w) (hn:n < E.l.length) (hr:UD E.toEnv n≠.out) :
  Calls Tryz.prog 222 #[.pointer (some ⟨c,0,none⟩)] w (Ans E c g (UD E.toEnv n) w):=by
 have HLT:=hid hn;clear hn;have H0:=Sx.start h hr rfl
 conv at H0=>arg 1;arg 8;unfold UD
 try simp only [bs,reduceCtorEq] at H0
 clear h hr;go_enter Tryz.func222,Tryz.ntmps222;go_wp2_with fail;refine yB H0 57 ?_;intro p w1 H2;clear H0;obtain⟨_,_,_,hat4,_⟩:=H2.out.rd.cells;have hsm5:((n:Nat):Int)≤1099511627776:=by have:=H2.out.rd.at_;have:=H2.out.rd.lie.small;omega
 obtain⟨_,hk7,hf8,_,_⟩:=H2.out.ex.opn.blk.cells;have hfz6:=H2.out.ex.opn.blk.free 1;have H3:=oD H2 ((n:Nat):Int);clear H2;go_wp2_with fail;generalize (w1.setCell ⟨p,1,none⟩ (.int .i64 ((n:Nat):Int)))=w9 at *;clear hat4 hsm5 hfz6 hk7 hf8;cases h10:E.is n [103,111,116,111] with
 | true =>
  have d11:(E.word (n:Nat)==[103,111,116,111])=true:=h10;simp only [h10,bs,reduceCtorEq] at H3;have HLTh10:=hid (gA h10);have HYh10:=hid h10;clear h10;refine cA H3 ?_;intro w12 H13;clear H3;obtain⟨_,_,_,hat16,_⟩:=H13.out.rd.cells;have hsm17:((n:Nat):Int)≤1099511627776:=by have:=H13.out.rd.at_;have:=H13.out.rd.lie.small;omega
  have hfz15:=H13.out.rd.free 3;have H14:=ZA H13 HLTh10;clear H13;obtain⟨n18,hm⟩:∃ m,m=n+1:=⟨_,rfl⟩;simp only [← hm] at H14;have HMn18:=hid hm;clear hm;go_wp2_with fail;generalize (w12.setCell ⟨c,3,none⟩ (.int .i64 (((n:Nat):Int)+1)))=w19 at *;clear hat16 hsm17 hfz15
  try simp only [show (((n:Nat):Int)+1)=((n18:Nat):Int) from by have:=HMn18.out;omega] at H14
  refine IA H14 0 ?_;intro q21 w20 H22;clear H14;have H23:=pB H22;clear H22;go_wp2_with fail;refine lG H23 (fun _ _ h=>⟨rfl,h⟩) ?_;intro q26 t27 n25 w24 H28;clear H23;go_wp2_with fail;refine (eA H28 (by simp)).mono ?_;rintro e wz ⟨rfl,HA⟩;clear H28;go_wp2_with fail;go_ret;exact HA.out
 | false =>
  have d11:(E.word (n:Nat)==[103,111,116,111])=false:=h10;simp only [h10,bs,reduceCtorEq] at H3;clear h10;cases h29:E.is n [102,97,108,108,116,104,114,111,117,103,104] with
  | true =>
   have d30:(E.word (n:Nat)==[102,97,108,108,116,104,114,111,117,103,104])=true:=h29;simp only [h29,bs,reduceCtorEq] at H3;have HLTh29:=hid (gA h29);have HYh29:=hid h29;clear h29;refine cA H3 ?_;intro w31 H32;clear H3;obtain⟨_,_,_,hat35,_⟩:=H32.out.rd.cells;have hsm36:((n:Nat):Int)≤1099511627776:=by have:=H32.out.rd.at_;have:=H32.out.rd.lie.small;omega
   have hfz34:=H32.out.rd.free 3;have H33:=ZA H32 HLTh29;clear H32;obtain⟨n37,hm⟩:∃ m,m=n+1:=⟨_,rfl⟩;simp only [← hm] at H33;have HMn37:=hid hm;clear hm;go_wp2_with fail;generalize (w31.setCell ⟨c,3,none⟩ (.int .i64 (((n:Nat):Int)+1)))=w38 at *;clear hat35 hsm36 hfz34
   try simp only [show (((n:Nat):Int)+1)=((n37:Nat):Int) from by have:=HMn37.out;omega] at H33
   refine IA H33 0 ?_;intro q40 w39 H41;clear H33;go_wp2_with fail;refine (eA H41 (by simp)).mono ?_;rintro e wz ⟨rfl,HA⟩;clear H41;go_wp2_with fail;go_ret;exact HA.out
  | false =>
   have d30:(E.word (n:Nat)==[102,97,108,108,116,104,114,111,117,103,104])=false:=h29;simp only [h29,bs,reduceCtorEq] at H3;clear h29;refine cA H3 ?_;intro w42 H43;clear H3;obtain⟨_,_,_,hat46,_⟩:=H43.out.rd.cells;have hsm47:((n:Nat):Int)≤1099511627776:=by have:=H43.out.rd.at_;have:=H43.out.rd.lie.small;omega
   have hfz45:=H43.out.rd.free 3;have H44:=ZA H43 HLT;clear H43;obtain⟨n48,hm⟩:∃ m,m=n+1:=⟨_,rfl⟩;simp only [← hm] at H44;have HMn48:=hid hm;clear hm;go_wp2_with fail;generalize (w42.setCell ⟨c,3,none⟩ (.int .i64 (((n:Nat):Int)+1)))=w49 at *;clear hat46 hsm47 hfz45
   try simp only [show (((n:Nat):Int)+1)=((n48:Nat):Int) from by have:=HMn48.out;omega] at H44
   refine IA H44 0 ?_;intro q51 w50 H52;clear H44;obtain⟨_,_,_,hat54,_⟩:=H52.out.rd.cells;have hsm55:((n48:Nat):Int)≤1099511627776:=by have:=H52.out.rd.at_;have:=H52.out.rd.lie.small;omega
   go_wp2_with fail;cases h53:E.named ((n48:Nat):Int) with
   | true =>
    simp only [h53,bs,reduceCtorEq] at H52;refine RB H52 _ true h53 ?_;intro w56 H57;clear H52 hat54 hsm55;have HYh53:=hid h53;clear h53;have H58:=pB H57;clear H57;go_wp2_with fail;refine lG H58 (fun _ _ h=>⟨rfl,h⟩) ?_;intro q61 t62 n60 w59 H63;clear H58;go_wp2_with fail;refine (eA H63 (by simp)).mono ?_;rintro e wz ⟨rfl,HA⟩;clear H63;go_wp2_with fail;go_ret;exact HA.out
   | false =>
    simp only [h53,bs,reduceCtorEq] at H52;refine RB H52 _ false h53 ?_;intro w64 H65;clear H52 hat54 hsm55;clear h53;go_wp2_with fail;refine (eA H65 (by simp)).mono ?_;rintro e wz ⟨rfl,HA⟩;clear H65;go_wp2_with fail;go_ret;exact HA.out
end
section
open Go.RowKit
section
variable {E:Ev}{S:AB}{c n:Nat}{g:Bool}{w0 w1:World}{p:Nat}{k:UInt8}{wd:Int}{f t:Nat}{kv v:Value}{ps0:List Nat}{ts0:List Tr}{ps:List Nat}{ts:List Tr}{rs:List Nat}{us:List Tr}{T X:R Tr}{w:World}{Q:Ending→World→Prop}
theorem Sx.startN (h:Rd E c n g w) (hn:Nd E c w0 p k wd f t kv ps0 ts0 ps ts w) (hr:T≠.out) (hX:T=X):Hid (Sx E c n g w0 (Nd E c w0 p k wd f t kv ps0 ts0 ps ts) T X w):=⟨h,hn.fr,hn.cw,hn,Nd.later,hX,hr⟩
theorem yC {P:World→Prop} (h:Hid (Sx E c n g w0 P T X w)):Hid (Sx E c n g w0 P T X w.drew):=h.out.below (Below.refl _ _).drew
theorem FF {P:World→Prop} (h:Hid (Sx E c n g w0 P T X w)) (o:Obj):Hid (Sx E c n g w0 P T X (w.alloc o)):=h.out.below ((Below.refl _ _).alloc (Nat.le_refl _) o)
theorem IJ {P:World→Prop}{x:UInt8}{ws:List UInt8} (h:Hid (Sx E c n g w0 P T X w)) (h1:Hid (E.is n (x::ws)=true)) (hQ:∀ n' w',n'=n+1→Hid (Sx E c n' g w0 P T X w')→Q (.returned (.tuple #[])) w') :
  Calls Tryz.prog 107 #[.pointer (some ⟨c,0,none⟩),.string ⟨(x::ws).toArray⟩] w Q:=by
 refine (NH h.out.rd x ws).mono ?_;have hw:want E.toEnv (x::ws) n=.ok () (n+1):=by unfold want;rw [if_pos h1.out]
 rw [hw];rintro e w' ⟨rfl,q1,q2⟩;exact hQ _ w' rfl (h.out.step q2 q1 rfl)
theorem jP (h:Hid (Sx E c n g w0 (Rw E c w1 v ps ts [] []) T X w)) (k:UInt8) (wd:Int) (f t:Nat) :
  Hid (Sx E c n g w0 (Rw E c w1 OE [] [] [w.heap.size] [.mk k wd f t ts]) T X (w.alloc (.cells #[.int .u8 (k.toNat:Int),.int .i64 wd,.int .i64 (f:Int),.int .i64 (t:Int),v] 61))):=by
 have hh:=h.out;have hB:=(Below.refl w.heap.size w).alloc (Nat.le_refl _) (Obj.cells #[.int .u8 (k.toNat:Int),.int .i64 wd,.int .i64 (f:Int),.int .i64 (t:Int),v] 61);have hn:=heap_alloc_new w (Obj.cells #[.int .u8 (k.toNat:Int),.int .i64 wd,.int .i64 (f:Int),.int .i64 (t:Int),v] 61);have hz:=hh.ex.fr.size;obtain⟨ka,cap,hv,hP,hN⟩:=hh.ex.row;have hlen:=fA.len hN;subst hv;refine (hh.below hB).with ⟨hh.ex.fr.trans (lA c hB),hh.ex.cw,World.ownsRow_nil _ _ _ _,trivial,⟨⟨⟨hz,by simp,by simp [Value.ownBlock]⟩,ka,cap,ps,by rw [← hlen];exact hn,?_,?_⟩,trivial⟩,.inr (by simp [Value.ownBlock])⟩ Rw.later
 ·exact nJ.kept hP (fun b hb=>hB.block b hb.2) (fun b hb=>⟨hb.1,by have:=hb.2;simp;omega,by simp [Value.ownBlock]⟩)
 ·exact fA.kept (fun b hb=>hB.block b hb.2) (fun b hb=>⟨hb.1,by have:=hb.2;simp;omega,by simp [Value.ownBlock]⟩) _ _ hN
structure Pu (E:Ev) (c:Nat) (w1:World) (p:Nat) (k:UInt8) (wd:Int) (f t:Nat) (v:Value) (ps:List Nat) (ts:List Tr) (w:World):Prop where
 fr:Fr [c] w1 w
 cw:c < w1.heap.size
 blk:∃ kv,YC w p k wd f t kv
 own:w.ownsRow w1.heap.size 51 1 v ps.length (GB ps)
 low:w1.heap.size≤p
 sep:v.ownBlock≠some p
 old:fA w (ndD w1 p v w) ps ts
 z:E.zo=none∨(E.zb≠p∧v.ownBlock≠some E.zb)
theorem Pu.later (w w':World) (h:Pu E c w1 p k wd f t v ps ts w) (hf:Fr [c] w w'):Pu E c w1 p k wd f t v ps ts w':=by
 have hc:=h.cw;have hl:=h.low;have hk:∀ b,ndD w1 p v w b→w'.heap[b]?=w.heap[b]?:=fun b hb=>hf.block b hb.2.1 (by have:=hb.1;simp;omega)
 obtain⟨kv,hb⟩:=h.blk;refine⟨h.fr.trans hf,h.cw,⟨kv,hb.later hf (by simp;omega)⟩,pD h.own hf (fun b hb e=>?_),h.low,h.sep,fA.kept hk (ndD.later hf.size) _ _ h.old,h.z⟩;simp at hb;subst hb;have:=(h.own.lt _ e).1;omega
theorem Pu.set (h:Pu E c w1 p k wd f t v ps ts w):Nd E c w1 p k wd f t v ps ts [] [] (w.setCell ⟨p,4,none⟩ v):=by
 obtain⟨kv,hb⟩:=h.blk;have hf:Fr [p] w (w.setCell ⟨p,4,none⟩ v):=NA p 4 w v;have hk:∀ b,ndD w1 p v w b→(w.setCell ⟨p,4,none⟩ v).heap[b]?=w.heap[b]?:=fun b hb=>hf.block b hb.2.1 (by have:=hb.2.2.1;simpa using this)
 exact⟨h.fr.trans' hf (fun i hi=>.inr (by have:=h.low;simp at hi;omega)),h.cw,⟨hb.kids v,pD h.own hf (fun b hb=>by simp at hb;subst hb;exact h.sep),h.low,h.sep⟩,fA.kept hk (ndD.later hf.size) _ _ h.old,trivial,h.z⟩
theorem VL (h:Hid (Sx E c n g w0 (Pu E c w1 p k wd f t v ps ts) T X w)) (h01:w0.heap.size≤w1.heap.size:=by exact Nat.le_refl _):Hid (Sx E c n g w0 (Nd E c w1 p k wd f t v ps ts [] []) T X (w.setCell ⟨p,4,none⟩ v)):=by
 have hh:=h.out;have h1:=hh.ex.cw;have h2:=hh.ex.low;have hf:Fr [p] w (w.setCell ⟨p,4,none⟩ v):=NA p 4 w v;exact⟨hh.rd.later hf (fun x hx=>by simp at hx;omega) (hh.ex.z.imp id (fun h m=>h.1 (by simpa using m))),hh.fr.trans' hf (fun i hi=>.inr (by simp at hi;omega)),hh.cw,hh.ex.set,Nd.later,hh.eq,hh.ne⟩
theorem DU {q:Nat}{u:Tr}{v':Value}{w':World} (h:Hid (Sx E c n g w0 (Nd E c w1 p k wd f t kv ps0 ts0 [q] [u]) T X w)) (h01:w0.heap.size≤w1.heap.size)
  (hown:w'.ownsRow w1.heap.size 51 1 v' (ps0.length+1) (GB ps0++GB [q])) (hgrow:(w.alloc (.cells #[.pointer (some ⟨q,0,none⟩)] 51)).grownBy w' kv.ownBlock)
  (hat:v'.ownBlock=kv.ownBlock∨v'.ownBlock=some (w.alloc (.cells #[.pointer (some ⟨q,0,none⟩)] 51)).heap.size):Hid (Sx E c n g w0 (Pu E c w1 p k wd f t v' (ps0++[q]) (ts0++[u])) T X w'):=by
 have hh:=h.out;have hz:=hh.ex.fr.size;have hcw:=hh.ex.cw;have hl:=hh.ex.opn.low;have hpl:=hh.ex.opn.blk.lt;have hB:=(Below.refl w.heap.size w).alloc (Nat.le_refl _) (Obj.cells #[.pointer (some ⟨q,0,none⟩)] 51);have ha5:(w.alloc (Obj.cells #[.pointer (some ⟨q,0,none⟩)] 51)).heap.size=w.heap.size+1:=by simp
 have hg5:=hgrow.size;have hX:Fr (YD kv) (w.alloc (Obj.cells #[.pointer (some ⟨q,0,none⟩)] 51)) w':=Fr.grown hgrow (fun k hk=>by simp [YD,hk]);have hXm:∀ i∈YD kv,w1.heap.size≤i∧i≠p∧kv.ownBlock=some i:=by
  intro i hi;unfold YD at hi;split at hi
  ·rename_i b2 hb2;simp at hi;subst hi;exact⟨(hh.ex.opn.row.lt _ hb2).1,fun e=>hh.ex.opn.sep (e ▸ hb2),hb2⟩
  ·simp at hi
 have hF1:=(hh.ex.fr.trans (lA c hB)).trans' hX (fun i hi=>.inr (hXm i hi).1);have hF0:=(hh.fr.trans (lA c hB)).trans' hX (fun i hi=>.inr (by have:=(hXm i hi).1;omega));have hvp:v'.ownBlock≠some p:=by
  rcases hat with e|e
  ·rw [e];exact hh.ex.opn.sep
  ·rw [e];intro x;cases x;omega
 have hk:∀ b,ndD w1 p kv w b→w'.heap[b]?=w.heap[b]?:=fun b hb=>by
  rw [hgrow.block b (by have:=hb.2.1;omega) (fun e=>hb.2.2.2 e.symm)];exact hB.block b hb.2.1
 have hd:∀ b,ndD w1 p kv w b→ndD w1 p v' w' b:=fun b hb=>by
  refine⟨hb.1,by have:=hb.2.1;omega,hb.2.2.1,fun e=>?_⟩;rcases hat with x|x
  ·exact hb.2.2.2 (x ▸ e)
  ·rw [x] at e;cases e;have:=hb.2.1;omega
 refine⟨(hh.rd.below hB).later hX (fun i hi=>by have:=(hXm i hi).1;omega) (hh.ex.z.imp id (fun h m=>h.2 (hXm _ m).2.2)),hF0,hh.cw,⟨hF1,hcw,⟨kv,(hh.ex.opn.blk.later (lA c hB) (by simp;omega)).later hX (fun m=>(hXm p m).2.1 rfl)⟩,?_,hl,hvp,?_,?_⟩,Pu.later,hh.eq,hh.ne⟩
 ·rw [List.length_append,show GB (ps0++[q])=GB ps0++GB [q] from by simp [GB]];exact hown
 ·exact fA.append (fA.kept hk hd _ _ hh.ex.old) (fA.kept hk hd _ _ hh.ex.kids)
 ·rcases hh.ex.z with z|z
  ·exact .inl z
  ·rcases hat with x|x
   ·exact .inr ⟨z.1,by rw [x];exact z.2⟩
   ·exact hh.rd.zlt.imp id (fun h=>⟨z.1,fun e=>by rw [x] at e;have:=Option.some.inj e;omega⟩)
theorem nY {ops:Array Oper}{rest:List Oper}{o:Oper}{a:Act}{Q:Exit→Act→World→Prop} (hgd:o.guard=none) (s x:Operand)
  (ho:o.op=.call { callee:=.builtin .append,args:=#[s,x],argTypes:=#[59,59] }) {q:Nat}{u:Tr}
  (h:Hid (Sx E c n g w0 (Nd E c w1 p k wd f t kv ps0 ts0 [q] [u]) T X w)) (h01:w0.heap.size≤w1.heap.size) (hs:a.eval s=kv) (hx:a.eval x=.slice (some ⟨w.heap.size,0,none⟩) 1 1) (hsm:ps0.length≤1099511627776)
  (hQ:∀ v' w',Hid (Sx E c n g w0 (Pu E c w1 p k wd f t v' (ps0++[q]) (ts0++[u])) T X w')→wpList Tryz.prog ops Q rest (a.put o.dst v') w') :
  wpList Tryz.prog ops Q (o::rest) a (w.alloc (.cells #[.pointer (some ⟨q,0,none⟩)] 51)):=by
 obtain⟨iP,hiP,hz0,hz1,hz2⟩:=info_parts Tryz.infoP;have hh:=h.out;have hz:=hh.ex.fr.size;have ha5:(w.alloc (Obj.cells #[.pointer (some ⟨q,0,none⟩)] 51)).heap.size=w.heap.size+1:=by simp
 refine wpList_append_own_at _ hgd s x 59 ho w1.heap.size 51 iP _ 1 8 Tryz.underlying59 hiP hz0 hz1 hz2 rfl (by decide) kv ps0.length (GB ps0) hs (hh.ex.opn.row.alloc _) ⟨w.heap.size,0,none⟩ 1 1 (GB [q]) hx rfl
  (World.news_of_block (cs:=#[.pointer (some ⟨q,0,none⟩)]) (t:=51) (fr:=(0,0)) (heap_alloc_new w _)) (zG _) (by unfold maxLen;omega) (by omega) (by omega) ?_
 intro v' w' hown hgrow _ hat;exact hQ v' w' (DU h h01 hown hgrow hat)
end
section
variable {E:Ev}{S:AB}{c n k:Nat}{g:Bool}{w0:World}{p:Nat}{kd:UInt8}{wd:Int}{f t:Nat}{kv:Value}{ps0:List Nat}{ts0:List Tr}{w:World}
theorem ZE (H:aB E S) (h:Rd E c n g w) (hn:Nd E c w0 p kd wd f t kv ps0 ts0 [] [] w) (hps:ps0.length≤1000) (hr:S.t .typ n g≠.out) :
  Calls Tryz.prog 150 #[.pointer (some ⟨c,0,none⟩),.pointer (some ⟨p,0,none⟩)] w (Ans E c g ((S.t .typ n g).andThen fun u m=>.ok (.mk kd wd f m (ts0++[u])) m) w0):=by
 have HD:=hid H;clear H;have hr2:((S.t .typ n g).andThen fun u m=>(R.ok (.mk kd wd f m (ts0++[u])) m:R Tr))≠.out:=by
  cases hc:S.t .typ n g with
  | out=>exact absurd hc hr
  | bad k=>simp [R.andThen]
  | ok a b=>simp [R.andThen]
 have H0:=Sx.startN h hn hr2 rfl;clear h hn hr hr2;go_enter Tryz.func150,Tryz.ntmps150;go_wp2_with fail;refine jA (F:=.typ) H0 HD (by decide) ⟨rfl,rfl⟩ (fun _ _ h=>⟨rfl,h⟩) ?_;intro q u n2 w2 H2;clear H0;go_wp2_with fail;refine (eA H2 (by simp;omega)).mono ?_;rintro e wz ⟨rfl,HA⟩;clear H2;go_wp2_with fail;go_ret;exact HA.out
end
end
end Go.Proofs.YtfmpphplbdojbaaGreatDoor
