import Derived.Test.YtfmpphplbdojbaaGreatDoorQAI
import Derived.Test.YtfmpphplbdojbaaGreatDoorQAL
import Derived.Test.YtfmpphplbdojbaaGreatDoorQAB
namespace Go.Proofs.YtfmpphplbdojbaaGreatDoor
open Lib(hid)
set_option linter.all false
set_option maxHeartbeats 40000000
set_option maxRecDepth 100000
section
open Go.RowKit
variable {E:Ev}{S:AB}{c n:Nat}{g:Bool}{w:World}
set_option maxRecDepth 100000
set_option maxHeartbeats 40000000
section
variable {k:Nat}
theorem tS (h:Rd E c n g w) (f:FuncId) (hcf:Tryz.prog.funcs[f]?.map (fun f=>(f.name== "runtime.NumGoroutine",f.body.isNone))=some (false,false)) {r:R Tr}
  (H:∀ w1,Rd E c n false w1->Fr [c] w w1->Calls Tryz.prog f #[.pointer (some ⟨c,0,none⟩)] w1 (Ans E c false r w1)) :
  Calls Tryz.prog 102 #[.pointer (some ⟨c,0,none⟩),.func (.func f) #[.pointer (some ⟨c,0,none⟩)] #[]] w (Ans E c g r w) :=
 (GG h f #[.pointer (some ⟨c,0,none⟩)] #[] (fun _=>cF hcf _ _) r (fun _=>True) w (Fr.refl _ _) h.lt (fun w1 hR hF=>(H w1 hR hF).mono (fun e w' hA=>⟨fun _ _=>trivial,hA.behind hF⟩))).mono (fun e w' hA=>hA.2)
theorem OQ (H:∀ j,j<=k->aB E (kA E.toEnv j)) (hkk:k<=1099511627776) (h:Rd E c n g w) (hn:n < E.l.length) (hr:CE E.toEnv (kA E.toEnv k) n g≠.out) :
  Calls Tryz.prog 110 #[.pointer (some ⟨c,0,none⟩)] w (Ans E c g (CE E.toEnv (kA E.toEnv k) n g) w):=by
 have L:=hid hn;clear hn;have HA:=hid H;have HD:=hid (H k (C' _));clear H;have H:=Sx.start h hr rfl
 conv at H=>arg 1;arg 8;unfold CE EN
 try simp only [bs,reduceCtorEq] at H
 have KO:Kd 3 3:=rfl;have K1:Kd 4 4:=rfl;clear h hr;go_enter Tryz.func110,Tryz.ntmps110;exact dr
theorem YN (H:aB E S) (h:Rd E c n false w) (hr:tI E.toEnv S n≠.out) :
  Calls Tryz.prog 103 #[.pointer (some ⟨c,0,none⟩)] w (Ans E c false (tI E.toEnv S n) w):=by
 have HD:=hid H;clear H;have H0:=Sx.start h hr rfl
 conv at H0=>arg 1;arg 8;unfold tI xE
 try simp only [Bool.or_false,Bool.false_or,Bool.or_true,Bool.true_or,Bool.and_true,Bool.true_and,Bool.and_false,Bool.false_and,Bool.not_true,Bool.not_false,Bool.false_eq_true,reduceCtorEq,if_true,if_false,mA,PA,oA,zA] at H0
 clear h hr;go_enter Tryz.func103,Tryz.ntmps103;go_wp2_with fail;refine yB H0 0 ?_;intro p w1 H2;clear H0;obtain⟨_,_,_,hat4,_⟩:=H2.out.rd.cells;have hsm5:((n:Nat):Int)<=1099511627776:=C8
 go_wp2_with fail;cases h3:E.named ((n:Nat):Int) with
 | true =>
  simp only [h3,Bool.or_false,Bool.false_or,Bool.or_true,Bool.true_or,Bool.and_true,Bool.true_and,Bool.and_false,Bool.false_and,Bool.not_true,Bool.not_false,Bool.false_eq_true,reduceCtorEq,if_true,if_false,mA,PA,oA,zA] at H2;refine RB H2 _ true h3 ?_;intro w6 H7;clear H2 hat4 hsm5;have HYh3:=hid h3;clear h3;go_wp2_with fail;refine aE (F:=.typeName) H7 HD Ch ⟨rfl,rfl⟩ (fun _ _ h=>⟨rfl,h⟩) ?_;intro q wz HA;clear H7;go_wp2_with fail;go_ret;exact HA.out
 | false =>
  simp only [h3,Bool.or_false,Bool.false_or,Bool.or_true,Bool.true_or,Bool.and_true,Bool.true_and,Bool.and_false,Bool.false_and,Bool.not_true,Bool.not_false,Bool.false_eq_true,reduceCtorEq,if_true,if_false,mA,PA,oA,zA] at H2;refine RB H2 _ false h3 ?_;intro w8 H9;clear H2 hat4 hsm5;clear h3;go_wp2_with fail;cases h10:E.is n [42] with
  | true =>
   have d11:(E.word (n:Nat)==[42])=true:=h10;simp only [h10,Bool.or_false,Bool.false_or,Bool.or_true,Bool.true_or,Bool.and_true,Bool.true_and,Bool.and_false,Bool.false_and,Bool.not_true,Bool.not_false,Bool.false_eq_true,reduceCtorEq,if_true,if_false,mA,PA,oA,zA] at H9;have HLTh10:=hid (gA h10);have HYh10:=hid h10;clear h10;refine cA H9 ?_;intro w12 H13;clear H9;obtain⟨_,_,_,hat16,_⟩:=H13.out.rd.cells;have hsm17:((n:Nat):Int)<=1099511627776:=Fw
   have hfz15:=H13.out.rd.free 3;have H14:=ZA H13 HLTh10;clear H13;obtain⟨n18,hm⟩:∃ m,m=n+1:=⟨_,rfl⟩;simp only [<- hm] at H14;have HMn18:=hid hm;clear hm;obtain⟨hk21,_,hf22,_,_⟩:=H14.out.ex.opn.blk.cells;have hfz20:=H14.out.ex.opn.blk.free 0;have H19:Hid (Sx _ _ _ _ _ _ _ _ ((w12.setCell ⟨c,3,none⟩ (.int .i64 (((n:Nat):Int)+1))).setCell ⟨p,0,none⟩ (.int .u8 35))):=dB H14 35;clear H14;go_wp2_with fail;generalize ((w12.setCell ⟨c,3,none⟩ (.int .i64 (((n:Nat):Int)+1))).setCell ⟨p,0,none⟩ (.int .u8 35))=w23 at *;clear hat16 hsm17 hfz15 hfz20 hk21 hf22
   try simp only [show (((n:Nat):Int)+1)=((n18:Nat):Int) from by have:=HMn18.out;omega] at H19
   refine cE H19 (fun hr=>ZE HD.out H19.out.rd H19.out.ex Cm (fun e=>hr Ed)) (fun _ _ h=>⟨rfl,h⟩) ?_;intro q wz HA;clear H19;go_wp2_with fail;go_ret;exact HA.out
  | false =>
   have d11:(E.word (n:Nat)==[42])=false:=h10;simp only [h10,Bool.or_false,Bool.false_or,Bool.or_true,Bool.true_or,Bool.and_true,Bool.true_and,Bool.and_false,Bool.false_and,Bool.not_true,Bool.not_false,Bool.false_eq_true,reduceCtorEq,if_true,if_false,mA,PA,oA,zA] at H9;clear h10;cases h24:E.is n [40] with
   | true =>
    have d25:(E.word (n:Nat)==[40])=true:=h24;simp only [h24,Bool.or_false,Bool.false_or,Bool.or_true,Bool.true_or,Bool.and_true,Bool.true_and,Bool.and_false,Bool.false_and,Bool.not_true,Bool.not_false,Bool.false_eq_true,reduceCtorEq,if_true,if_false,mA,PA,oA,zA] at H9;have HLTh24:=hid (gA h24);have HYh24:=hid h24;clear h24;refine cA H9 ?_;intro w26 H27;clear H9;obtain⟨_,_,_,hat30,_⟩:=H27.out.rd.cells;have hsm31:((n:Nat):Int)<=1099511627776:=by have:=H27.out.rd.at_;have:=H27.out.rd.lie.small;omega
    have hfz29:=H27.out.rd.free 3;have H28:=ZA H27 HLTh24;clear H27;obtain⟨n32,hm⟩:∃ m,m=n+1:=⟨_,rfl⟩;simp only [<- hm] at H28;have HMn32:=hid hm;clear hm;obtain⟨hk35,_,hf36,_,_⟩:=H28.out.ex.opn.blk.cells;have hfz34:=H28.out.ex.opn.blk.free 0;have H33:Hid (Sx _ _ _ _ _ _ _ _ ((w26.setCell ⟨c,3,none⟩ (.int .i64 (((n:Nat):Int)+1))).setCell ⟨p,0,none⟩ (.int .u8 28))):=dB H28 28;clear H28;go_wp2_with fail;generalize ((w26.setCell ⟨c,3,none⟩ (.int .i64 (((n:Nat):Int)+1))).setCell ⟨p,0,none⟩ (.int .u8 28))=w37 at *;clear hat30 hsm31 hfz29 hfz34 hk35 hf36
    try simp only [show (((n:Nat):Int)+1)=((n32:Nat):Int) from by have:=HMn32.out;omega] at H33
    refine jA (F:=.typ) H33 HD Ch ⟨rfl,rfl⟩ (fun _ _ h=>⟨rfl,h⟩) ?_;intro q40 t41 n39 w38 H42;clear H33;go_wp2_with fail;refine FA H42 (fun _ _ h=>⟨rfl,h⟩) ?_;intro n44 w43 H45;clear H42;go_wp2_with fail;refine (eA H45 Cm).mono ?_;rintro e wz ⟨rfl,HA⟩;clear H45;go_wp2_with fail;go_ret;exact HA.out
   | false =>
    have d25:(E.word (n:Nat)==[40])=false:=h24;simp only [h24,Bool.or_false,Bool.false_or,Bool.or_true,Bool.true_or,Bool.and_true,Bool.true_and,Bool.and_false,Bool.false_and,Bool.not_true,Bool.not_false,Bool.false_eq_true,reduceCtorEq,if_true,if_false,mA,PA,oA,zA] at H9;clear h24;cases h46:E.is n [91] with
    | true =>
     have d47:(E.word (n:Nat)==[91])=true:=h46;simp only [h46,Bool.or_false,Bool.false_or,Bool.or_true,Bool.true_or,Bool.and_true,Bool.true_and,Bool.and_false,Bool.false_and,Bool.not_true,Bool.not_false,Bool.false_eq_true,reduceCtorEq,if_true,if_false,mA,PA,oA,zA] at H9;have HLTh46:=hid (gA h46);have HYh46:=hid h46;clear h46;refine cA H9 ?_;intro w48 H49;clear H9;obtain⟨_,_,_,hat52,_⟩:=H49.out.rd.cells;have hsm53:((n:Nat):Int)<=1099511627776:=by have:=H49.out.rd.at_;have:=H49.out.rd.lie.small;omega
     have hfz51:=H49.out.rd.free 3;have H50:=ZA H49 HLTh46;clear H49;obtain⟨n54,hm⟩:∃ m,m=n+1:=⟨_,rfl⟩;simp only [<- hm] at H50;have HMn54:=hid hm;clear hm;go_wp2_with fail;generalize (w48.setCell ⟨c,3,none⟩ (.int .i64 (((n:Nat):Int)+1)))=w55 at *;clear hat52 hsm53 hfz51
     try simp only [show (((n:Nat):Int)+1)=((n54:Nat):Int) from by have:=HMn54.out;omega] at H50
     refine cE H50 (fun hr=>HD.out.row _ _ _ _ _ _ _ H50.out.rd H50.out.ex hr) (fun _ _ h=>⟨rfl,h⟩) ?_;intro q wz HA;clear H50;go_wp2_with fail;go_ret;exact HA.out
    | false =>
     have d47:(E.word (n:Nat)==[91])=false:=h46;simp only [h46,Bool.or_false,Bool.false_or,Bool.or_true,Bool.true_or,Bool.and_true,Bool.true_and,Bool.and_false,Bool.false_and,Bool.not_true,Bool.not_false,Bool.false_eq_true,reduceCtorEq,if_true,if_false,mA,PA,oA,zA] at H9;clear h46;cases h56:E.is n [109,97,112] with
     | true =>
      have d57:(E.word (n:Nat)==[109,97,112])=true:=h56;simp only [h56,Bool.or_false,Bool.false_or,Bool.or_true,Bool.true_or,Bool.and_true,Bool.true_and,Bool.and_false,Bool.false_and,Bool.not_true,Bool.not_false,Bool.false_eq_true,reduceCtorEq,if_true,if_false,mA,PA,oA,zA] at H9;have HLTh56:=hid (gA h56);have HYh56:=hid h56;clear h56;refine cA H9 ?_;intro w58 H59;clear H9;obtain⟨_,_,_,hat62,_⟩:=H59.out.rd.cells;have hsm63:((n:Nat):Int)<=1099511627776:=by have:=H59.out.rd.at_;have:=H59.out.rd.lie.small;omega
      have hfz61:=H59.out.rd.free 3;have H60:=ZA H59 HLTh56;clear H59;obtain⟨n64,hm⟩:∃ m,m=n+1:=⟨_,rfl⟩;simp only [<- hm] at H60;have HMn64:=hid hm;clear hm;obtain⟨hk67,_,hf68,_,_⟩:=H60.out.ex.opn.blk.cells;have hfz66:=H60.out.ex.opn.blk.free 0;have H65:Hid (Sx _ _ _ _ _ _ _ _ ((w58.setCell ⟨c,3,none⟩ (.int .i64 (((n:Nat):Int)+1))).setCell ⟨p,0,none⟩ (.int .u8 44))):=dB H60 44;clear H60;go_wp2_with fail;generalize ((w58.setCell ⟨c,3,none⟩ (.int .i64 (((n:Nat):Int)+1))).setCell ⟨p,0,none⟩ (.int .u8 44))=w69 at *;clear hat62 hsm63 hfz61 hfz66 hk67 hf68
      try simp only [show (((n:Nat):Int)+1)=((n64:Nat):Int) from by have:=HMn64.out;omega] at H65
      refine FA H65 (fun _ _ h=>⟨rfl,h⟩) ?_;intro n71 w70 H72;clear H65;go_wp2_with fail;refine jA (F:=.typ) H72 HD Ch ⟨rfl,rfl⟩ (fun _ _ h=>⟨rfl,h⟩) ?_;intro q75 t76 n74 w73 H77;clear H72;go_wp2_with fail;refine FA H77 (fun _ _ h=>⟨rfl,h⟩) ?_;intro n79 w78 H80;clear H77;obtain⟨_,_,_,_,hk81⟩:=H80.out.ex.opn.blk.cells;have hfz82:=H80.out.ex.opn.blk.free 4;go_wp2_with (at_builtin;refine nY rfl _ _ rfl H80 (C' _) rfl rfl Cm ?_);intro v83 w84 H85;clear H80 hk81 hfz82;obtain⟨va9,vc9,rfl⟩:=xB H85.out.ex.own;obtain⟨kv9,hb9⟩:=H85.out.ex.blk;have hfz88:=hb9.free 4;obtain⟨_,_,_,_,hk87⟩:=hb9.cells;have H86:=VL H85;clear H85;go_wp2_with fail;clear hfz88 hk87 hb9;refine cE H86 (fun hr=>ZE HD.out H86.out.rd H86.out.ex Cm (fun e=>hr Ed)) (fun _ _ h=>⟨rfl,h⟩) ?_;intro q wz HA;clear H86;go_wp2_with fail;go_ret;exact HA.out
     | false =>
      have d57:(E.word (n:Nat)==[109,97,112])=false:=h56;simp only [h56,Bool.or_false,Bool.false_or,Bool.or_true,Bool.true_or,Bool.and_true,Bool.true_and,Bool.and_false,Bool.false_and,Bool.not_true,Bool.not_false,Bool.false_eq_true,reduceCtorEq,if_true,if_false,mA,PA,oA,zA] at H9;clear h56;cases h90:E.is n [99,104,97,110] with
      | true =>
       have d91:(E.word (n:Nat)==[99,104,97,110])=true:=h90;simp only [h90,Bool.or_false,Bool.false_or,Bool.or_true,Bool.true_or,Bool.and_true,Bool.true_and,Bool.and_false,Bool.false_and,Bool.not_true,Bool.not_false,Bool.false_eq_true,reduceCtorEq,if_true,if_false,mA,PA,oA,zA] at H9;have HLTh90:=hid (gA h90);have HYh90:=hid h90;clear h90;refine cA H9 ?_;intro w92 H93;clear H9;obtain⟨_,_,_,hat96,_⟩:=H93.out.rd.cells;have hsm97:((n:Nat):Int)<=1099511627776:=by have:=H93.out.rd.at_;have:=H93.out.rd.lie.small;omega
       have hfz95:=H93.out.rd.free 3;have H94:=ZA H93 HLTh90;clear H93;obtain⟨n98,hm⟩:∃ m,m=n+1:=⟨_,rfl⟩;simp only [<- hm] at H94;have HMn98:=hid hm;clear hm;obtain⟨hk101,_,hf102,_,_⟩:=H94.out.ex.opn.blk.cells;have hfz100:=H94.out.ex.opn.blk.free 0;have H99:Hid (Sx _ _ _ _ _ _ _ _ ((w92.setCell ⟨c,3,none⟩ (.int .i64 (((n:Nat):Int)+1))).setCell ⟨p,0,none⟩ (.int .u8 45))):=dB H94 45;clear H94;obtain⟨_,_,_,hat104,_⟩:=H99.out.rd.cells;have hsm105:((n98:Nat):Int)<=1099511627776:=by have:=H99.out.rd.at_;have:=H99.out.rd.lie.small;omega
       obtain⟨_,hk107,hf108,_,_⟩:=H99.out.ex.opn.blk.cells;have hfz106:=H99.out.ex.opn.blk.free 1;have H103:=oD H99 ((n:Nat):Int);clear H99;go_wp2_with fail;generalize (((w92.setCell ⟨c,3,none⟩ (.int .i64 (((n:Nat):Int)+1))).setCell ⟨p,0,none⟩ (.int .u8 45)).setCell ⟨p,1,none⟩ (.int .i64 ((n:Nat):Int)))=w109 at *;clear hat96 hsm97 hfz95 hfz100 hk101 hf102 hat104 hsm105 hfz106 hk107 hf108
       try simp only [show (((n:Nat):Int)+1)=((n98:Nat):Int) from by have:=HMn98.out;omega] at H103
       refine nO H103 ?_;intro n111 bn111 w110 hm H112;clear H103;simp only [<- hm] at H112;clear hm;go_wp2_with fail;refine cE H112 (fun hr=>ZE HD.out H112.out.rd H112.out.ex Cm (fun e=>hr Ed)) (fun _ _ h=>⟨rfl,h⟩) ?_;intro q wz HA;clear H112;go_wp2_with fail;go_ret;exact HA.out
      | false =>
       have d91:(E.word (n:Nat)==[99,104,97,110])=false:=h90;simp only [h90,Bool.or_false,Bool.false_or,Bool.or_true,Bool.true_or,Bool.and_true,Bool.true_and,Bool.and_false,Bool.false_and,Bool.not_true,Bool.not_false,Bool.false_eq_true,reduceCtorEq,if_true,if_false,mA,PA,oA,zA] at H9;clear h90;cases h113:E.is n [60,45] with
       | true =>
        have d114:(E.word (n:Nat)==[60,45])=true:=h113;simp only [h113,Bool.or_false,Bool.false_or,Bool.or_true,Bool.true_or,Bool.and_true,Bool.true_and,Bool.and_false,Bool.false_and,Bool.not_true,Bool.not_false,Bool.false_eq_true,reduceCtorEq,if_true,if_false,mA,PA,oA,zA] at H9;have HLTh113:=hid (gA h113);have HYh113:=hid h113;clear h113;refine cA H9 ?_;intro w115 H116;clear H9;obtain⟨_,_,_,hat119,_⟩:=H116.out.rd.cells;have hsm120:((n:Nat):Int)<=1099511627776:=by have:=H116.out.rd.at_;have:=H116.out.rd.lie.small;omega
        have hfz118:=H116.out.rd.free 3;have H117:=ZA H116 HLTh113;clear H116;obtain⟨n121,hm⟩:∃ m,m=n+1:=⟨_,rfl⟩;simp only [<- hm] at H117;have HMn121:=hid hm;clear hm;obtain⟨hk124,_,hf125,_,_⟩:=H117.out.ex.opn.blk.cells;have hfz123:=H117.out.ex.opn.blk.free 0;have H122:Hid (Sx _ _ _ _ _ _ _ _ ((w115.setCell ⟨c,3,none⟩ (.int .i64 (((n:Nat):Int)+1))).setCell ⟨p,0,none⟩ (.int .u8 45))):=dB H117 45;clear H117;obtain⟨_,_,_,hat127,_⟩:=H122.out.rd.cells;have hsm128:((n121:Nat):Int)<=1099511627776:=by have:=H122.out.rd.at_;have:=H122.out.rd.lie.small;omega
        obtain⟨_,hk130,hf131,_,_⟩:=H122.out.ex.opn.blk.cells;have hfz129:=H122.out.ex.opn.blk.free 1;have H126:=oD H122 ((n:Nat):Int);clear H122;go_wp2_with fail;generalize (((w115.setCell ⟨c,3,none⟩ (.int .i64 (((n:Nat):Int)+1))).setCell ⟨p,0,none⟩ (.int .u8 45)).setCell ⟨p,1,none⟩ (.int .i64 ((n:Nat):Int)))=w132 at *;clear hat119 hsm120 hfz118 hfz123 hk124 hf125 hat127 hsm128 hfz129 hk130 hf131
        try simp only [show (((n:Nat):Int)+1)=((n121:Nat):Int) from by have:=HMn121.out;omega] at H126
        refine FA H126 (fun _ _ h=>⟨rfl,h⟩) ?_;intro n134 w133 H135;clear H126;go_wp2_with fail;refine cE H135 (fun hr=>ZE HD.out H135.out.rd H135.out.ex Cm (fun e=>hr Ed)) (fun _ _ h=>⟨rfl,h⟩) ?_;intro q wz HA;clear H135;go_wp2_with fail;go_ret;exact HA.out
       | false =>
        have d114:(E.word (n:Nat)==[60,45])=false:=h113;simp only [h113,Bool.or_false,Bool.false_or,Bool.or_true,Bool.true_or,Bool.and_true,Bool.true_and,Bool.and_false,Bool.false_and,Bool.not_true,Bool.not_false,Bool.false_eq_true,reduceCtorEq,if_true,if_false,mA,PA,oA,zA] at H9;clear h113;cases h136:E.is n [102,117,110,99] with
        | true =>
         have d137:(E.word (n:Nat)==[102,117,110,99])=true:=h136;simp only [h136,Bool.or_false,Bool.false_or,Bool.or_true,Bool.true_or,Bool.and_true,Bool.true_and,Bool.and_false,Bool.false_and,Bool.not_true,Bool.not_false,Bool.false_eq_true,reduceCtorEq,if_true,if_false,mA,PA,oA,zA] at H9;have HLTh136:=hid (gA h136);have HYh136:=hid h136;clear h136;refine cA H9 ?_;intro w138 H139;clear H9;obtain⟨_,_,_,hat142,_⟩:=H139.out.rd.cells;have hsm143:((n:Nat):Int)<=1099511627776:=by have:=H139.out.rd.at_;have:=H139.out.rd.lie.small;omega
         have hfz141:=H139.out.rd.free 3;have H140:=ZA H139 HLTh136;clear H139;obtain⟨n144,hm⟩:∃ m,m=n+1:=⟨_,rfl⟩;simp only [<- hm] at H140;have HMn144:=hid hm;clear hm;obtain⟨hk147,_,hf148,_,_⟩:=H140.out.ex.opn.blk.cells;have hfz146:=H140.out.ex.opn.blk.free 0;have H145:Hid (Sx _ _ _ _ _ _ _ _ ((w138.setCell ⟨c,3,none⟩ (.int .i64 (((n:Nat):Int)+1))).setCell ⟨p,0,none⟩ (.int .u8 46))):=dB H140 46;clear H140;go_wp2_with fail;generalize ((w138.setCell ⟨c,3,none⟩ (.int .i64 (((n:Nat):Int)+1))).setCell ⟨p,0,none⟩ (.int .u8 46))=w149 at *;clear hat142 hsm143 hfz141 hfz146 hk147 hf148
         try simp only [show (((n:Nat):Int)+1)=((n144:Nat):Int) from by have:=HMn144.out;omega] at H145
         refine jA (F:=.signature) H145 HD Ch ⟨rfl,rfl⟩ (fun _ _ h=>⟨rfl,h⟩) ?_;intro q152 t153 n151 w150 H154;clear H145;go_wp2_with fail;refine (eA H154 Cm).mono ?_;rintro e wz ⟨rfl,HA⟩;clear H154;go_wp2_with fail;go_ret;exact HA.out
        | false =>
         have d137:(E.word (n:Nat)==[102,117,110,99])=false:=h136;simp only [h136,Bool.or_false,Bool.false_or,Bool.or_true,Bool.true_or,Bool.and_true,Bool.true_and,Bool.and_false,Bool.false_and,Bool.not_true,Bool.not_false,Bool.false_eq_true,reduceCtorEq,if_true,if_false,mA,PA,oA,zA] at H9;clear h136;cases h155:E.is n [115,116,114,117,99,116] with
         | true =>
          have d156:(E.word (n:Nat)==[115,116,114,117,99,116])=true:=h155;simp only [h155,Bool.or_false,Bool.false_or,Bool.or_true,Bool.true_or,Bool.and_true,Bool.true_and,Bool.and_false,Bool.false_and,Bool.not_true,Bool.not_false,Bool.false_eq_true,reduceCtorEq,if_true,if_false,mA,PA,oA,zA] at H9;have HLTh155:=hid (gA h155);have HYh155:=hid h155;clear h155;refine cA H9 ?_;intro w157 H158;clear H9;obtain⟨_,_,_,hat161,_⟩:=H158.out.rd.cells;have hsm162:((n:Nat):Int)<=1099511627776:=by have:=H158.out.rd.at_;have:=H158.out.rd.lie.small;omega
          have hfz160:=H158.out.rd.free 3;have H159:=ZA H158 HLTh155;clear H158;obtain⟨n163,hm⟩:∃ m,m=n+1:=⟨_,rfl⟩;simp only [<- hm] at H159;have HMn163:=hid hm;clear hm;obtain⟨hk166,_,hf167,_,_⟩:=H159.out.ex.opn.blk.cells;have hfz165:=H159.out.ex.opn.blk.free 0;have H164:Hid (Sx _ _ _ _ _ _ _ _ ((w157.setCell ⟨c,3,none⟩ (.int .i64 (((n:Nat):Int)+1))).setCell ⟨p,0,none⟩ (.int .u8 47))):=dB H159 47;clear H159;go_wp2_with fail;generalize ((w157.setCell ⟨c,3,none⟩ (.int .i64 (((n:Nat):Int)+1))).setCell ⟨p,0,none⟩ (.int .u8 47))=w168 at *;clear hat161 hsm162 hfz160 hfz165 hk166 hf167
          try simp only [show (((n:Nat):Int)+1)=((n163:Nat):Int) from by have:=HMn163.out;omega] at H164
          refine cE H164 (fun hr=>HD.out.members 20 .field _ _ _ _ _ _ _ _ _ _ rfl H164.out.rd H164.out.ex (fun e=>hr Ed)) (fun _ _ h=>⟨rfl,h⟩) ?_;intro q wz HA;clear H164;go_wp2_with fail;go_ret;exact HA.out
         | false =>
          have d156:(E.word (n:Nat)==[115,116,114,117,99,116])=false:=h155;simp only [h155,Bool.or_false,Bool.false_or,Bool.or_true,Bool.true_or,Bool.and_true,Bool.true_and,Bool.and_false,Bool.false_and,Bool.not_true,Bool.not_false,Bool.false_eq_true,reduceCtorEq,if_true,if_false,mA,PA,oA,zA] at H9;clear h155;cases h169:E.is n [105,110,116,101,114,102,97,99,101] with
          | true =>
           have d170:(E.word (n:Nat)==[105,110,116,101,114,102,97,99,101])=true:=h169;simp only [h169,Bool.or_false,Bool.false_or,Bool.or_true,Bool.true_or,Bool.and_true,Bool.true_and,Bool.and_false,Bool.false_and,Bool.not_true,Bool.not_false,Bool.false_eq_true,reduceCtorEq,if_true,if_false,mA,PA,oA,zA] at H9;have HLTh169:=hid (gA h169);have HYh169:=hid h169;clear h169;refine cA H9 ?_;intro w171 H172;clear H9;obtain⟨_,_,_,hat175,_⟩:=H172.out.rd.cells;have hsm176:((n:Nat):Int)<=1099511627776:=by have:=H172.out.rd.at_;have:=H172.out.rd.lie.small;omega
           have hfz174:=H172.out.rd.free 3;have H173:=ZA H172 HLTh169;clear H172;obtain⟨n177,hm⟩:∃ m,m=n+1:=⟨_,rfl⟩;simp only [<- hm] at H173;have HMn177:=hid hm;clear hm;obtain⟨hk180,_,hf181,_,_⟩:=H173.out.ex.opn.blk.cells;have hfz179:=H173.out.ex.opn.blk.free 0;have H178:Hid (Sx _ _ _ _ _ _ _ _ ((w171.setCell ⟨c,3,none⟩ (.int .i64 (((n:Nat):Int)+1))).setCell ⟨p,0,none⟩ (.int .u8 48))):=dB H173 48;clear H173;go_wp2_with fail;generalize ((w171.setCell ⟨c,3,none⟩ (.int .i64 (((n:Nat):Int)+1))).setCell ⟨p,0,none⟩ (.int .u8 48))=w182 at *;clear hat175 hsm176 hfz174 hfz179 hk180 hf181
           try simp only [show (((n:Nat):Int)+1)=((n177:Nat):Int) from by have:=HMn177.out;omega] at H178
           refine cE H178 (fun hr=>HD.out.members 23 .elem _ _ _ _ _ _ _ _ _ _ rfl H178.out.rd H178.out.ex (fun e=>hr Ed)) (fun _ _ h=>⟨rfl,h⟩) ?_;intro q wz HA;clear H178;go_wp2_with fail;go_ret;exact HA.out
          | false =>
           have d170:(E.word (n:Nat)==[105,110,116,101,114,102,97,99,101])=false:=h169;simp only [h169,Bool.or_false,Bool.false_or,Bool.or_true,Bool.true_or,Bool.and_true,Bool.true_and,Bool.and_false,Bool.false_and,Bool.not_true,Bool.not_false,Bool.false_eq_true,reduceCtorEq,if_true,if_false,mA,PA,oA,zA] at H9;clear h169;refine cA H9 ?_;intro w183 H184;clear H9;go_wp2_with fail;exact rG H184 (fun _ _ h=>⟨rfl,h⟩)
theorem uV (H:aB E S) (h:Rd E c n g w) (hr:tI E.toEnv S n≠.out) :
  Calls Tryz.prog 65 #[.pointer (some ⟨c,0,none⟩)] w (Ans E c g (tI E.toEnv S n) w):=by
 have HD:=hid H;clear H;have H0:=Sx.start h hr rfl
 skip
 try simp only [Bool.or_false,Bool.false_or,Bool.or_true,Bool.true_or,Bool.and_true,Bool.true_and,Bool.and_false,Bool.false_and,Bool.not_true,Bool.not_false,Bool.false_eq_true,reduceCtorEq,if_true,if_false,mA,PA,oA,zA] at H0
 clear h hr;go_enter Tryz.func65,Tryz.ntmps65;go_wp2_with fail;refine pG H0 (fun hr=>tS H0.out.rd 103 Ci (fun w1 hR hF=>YN HD.out hR hr)) (fun _ _ h=>⟨rfl,h⟩) ?_;intro q wz HA;clear H0;go_wp2_with fail;go_ret;exact HA.out
theorem WQ (H:∀ j,j<=k->aB E (kA E.toEnv j)) (hkk:k<=1000000000000) (h:Rd E c n g w) (hr:(kA E.toEnv k).t (.stmtsMore []) n false≠.out) :
  Calls Tryz.prog 67 #[.pointer (some ⟨c,0,none⟩)] w (Ans E c g ((kA E.toEnv k).t (.stmtsMore []) n false) w):=by
 have HA:=hid H;have HD:=hid (H k (C' _));clear H;have H0:=Sx.start h hr rfl
 skip
 try simp only [Bool.or_false,Bool.false_or,Bool.or_true,Bool.true_or,Bool.and_true,Bool.true_and,Bool.and_false,Bool.false_and,Bool.not_true,Bool.not_false,Bool.false_eq_true,reduceCtorEq,if_true,if_false,mA,PA,oA,zA] at H0
 clear h hr;go_enter Tryz.func67,Tryz.ntmps67;go_wp2_with fail;refine pG H0 (fun hr=>tS H0.out.rd 105 Ci (fun w1 hR hF=>CM HA.out hkk hR hr)) (fun _ _ h=>⟨rfl,h⟩) ?_;intro q wz HA;clear H0;go_wp2_with fail;go_ret;exact HA.out
theorem XS (H:aB E S) (h:Rd E c n g w) (hr:S.t (.binary 1) n g≠.out) :
  Calls Tryz.prog 66 #[.pointer (some ⟨c,0,none⟩)] w (Ans E c g (S.t (.binary 1) n g) w):=by
 have HD:=hid H;clear H;have H0:=Sx.start h hr rfl
 skip
 try simp only [Bool.or_false,Bool.false_or,Bool.or_true,Bool.true_or,Bool.and_true,Bool.true_and,Bool.and_false,Bool.false_and,Bool.not_true,Bool.not_false,Bool.false_eq_true,reduceCtorEq,if_true,if_false,mA,PA,oA,zA] at H0
 clear h hr;go_enter Tryz.func66,Tryz.ntmps66;go_wp2_with fail;refine pG H0 (fun hr=>HD.out.b 1 c n g _ Ch Ch H0.out.rd hr) (fun _ _ h=>⟨rfl,h⟩) ?_;intro q wz HA;clear H0;go_wp2_with fail;go_ret;exact HA.out
end
end
section
open Go.RowKit
variable {E:Ev}{S:AB}{c n k:Nat}{g:Bool}{w w0 w1 w2:World}{v:Value}{ps:List Nat}{ts:List Tr}{rs:List Nat}{us:List Tr}{T X:R Tr}
theorem FS {p:Nat}{P:World->Prop}{fn:FuncId}{args:Array Value}{Q:Ending->World->Prop} (h:Hid (Sx E c n g w0 P T X w)) (hC:X≠.out->Calls Tryz.prog fn args w (fE E c g X w0 p)) (hB:∀ k w',Ans E c g T w0 (Up k) w'->Q (Up k) w')
  (hQ:∀ w',Hid (Ans E c g T w0 (.returned (.pointer (some ⟨p,0,none⟩))) w')->Q (.returned (.pointer (some ⟨p,0,none⟩))) w'):Calls Tryz.prog fn args w Q:=by
 refine (hC (fun e=>h.out.ne Je)).mono ?_;rintro e w' ⟨hp,hA2⟩;rw [<- h.out.eq] at hA2;rcases hA2.shape with ⟨q,rfl⟩|⟨k2,rfl⟩
 ·have:=hp q rfl;subst this;exact hQ w' hA2
 ·exact hB k2 w' hA2
theorem fE.up {p m:Nat} (h:Ans E c g T w0 (Up m) w):fE E c g T w0 p (Up m) w:=⟨fun _ hq=>Hd,h⟩
theorem uQ {fr t0 p q:Nat}{x:Tr}{kv:Value} (H:∀ j,j<=k->aB E (kA E.toEnv j)) (hkk:k<=1000000000000) (h:Rd E c n g w) (hn:n < E.l.length) (hnd:Nd E c w0 p 0 (-1) fr t0 kv [q] [x] [] [] w) (hr:sE E.toEnv (kA E.toEnv k) fr x n g≠.out) :
  Calls Tryz.prog 216 #[.pointer (some ⟨c,0,none⟩),.pointer (some ⟨p,0,none⟩)] w (fE E c g (sE E.toEnv (kA E.toEnv k) fr x n g) w0 p):=by
 have HA:=hid H;clear H;have HLT:=hid hn;clear hn;have H0:=Sx.startN h hnd hr rfl
 conv at H0=>arg 1;arg 8;unfold sE
 simp only [oA,mA] at H0;clear h hnd hr;obtain⟨hk0,_,_,_,_⟩:=H0.out.ex.opn.blk.cells;have hfz0:=H0.out.ex.opn.blk.free 0;have H1:Hid (Sx _ _ _ _ _ _ _ _ (w.setCell ⟨p,0,none⟩ (.int .u8 30))):=dB H0 30;clear H0;obtain⟨_,_,_,hat,_⟩:=H1.out.rd.cells;have hsm:((n:Nat):Int)<=1099511627776:=by have:=H1.out.rd.at_;have:=H1.out.rd.lie.small;omega
 have hfz:=H1.out.rd.free 3;have HN:=ZA H1 HLT;clear H1;obtain⟨n1,hm⟩:∃ m,m=n+1:=⟨_,rfl⟩;simp only [<- hm] at HN;clear hm;go_enter Tryz.func216,Tryz.ntmps216;go_wp2_with fail;generalize (w.setCell ⟨p,0,none⟩ (.int .u8 30)).setCell ⟨c,3,none⟩ (.int .i64 (((n:Nat):Int)+1))=wB at *;clear hat hsm hfz hfz0 hk0;have H2:=gX HN;refine sS H2 0 ?_;intro q3 w3 H3;clear H2;go_wp2_with fail;cases h1:E.is n1 [58] with
 | true =>
  have d1:(E.word (n1:Nat)==[58])=true:=h1;simp only [h1,if_true] at H3;refine cA H3 ?_;intro w4 H4;clear H3;go_wp2_with fail;refine vE H4 h1 ?_;intro n5 w5 hm H5;clear H4 h1;simp only [<- hm] at H5;clear hm;have H6:=PN HN H5;clear H5 HN;go_wp2_with fail;refine FS H6 (fun hr=>(HA.out k (C' _)).slice _ _ _ _ _ _ _ _ _ _ _ _ _ _ H6.out.rd H6.out.ex hr) (fun _ _ h=>⟨rfl,fE.up h⟩) ?_;intro wz HZ;clear H6;go_wp2_with fail;go_ret;exact fE.mk HZ.out
 | false =>
  have d1:(E.word (n1:Nat)==[58])=false:=h1;simp only [h1,Bool.false_eq_true,if_false] at H3;refine cA H3 ?_;intro w4 H4;clear H3 h1;have H4':=BX H4;clear H4;go_wp2_with fail;refine iF (F:=.expr) H4' (hid (HA.out k (C' _))) Ch ⟨rfl,rfl⟩ (fun _ _ h=>⟨rfl,fE.up h⟩) ?_;intro q5 u5 n5 w5 H5;clear H4';go_wp2_with fail;cases h2:E.is n5 [58] with
  | true =>
   simp only [h2,if_true] at H5;refine vE H5 h2 ?_;intro n6 w6 hm H6;clear H5 h2;simp only [<- hm] at H6;clear hm;have H7:=PN HN H6;clear H6 HN;go_wp2_with fail;refine FS H7 (fun hr=>(HA.out k (C' _)).slice _ _ _ _ _ _ _ _ _ _ _ _ _ _ H7.out.rd H7.out.ex hr) (fun _ _ h=>⟨rfl,fE.up h⟩) ?_;intro wz HZ;clear H7;go_wp2_with fail;go_ret;exact fE.mk HZ.out
  | false =>
   simp only [h2,Bool.false_eq_true,if_false] at H5;refine gH H5 h2 ?_;intro w6 H6;clear H5 h2;have H7:=pL H6 Cm;clear H6;go_wp2_with fail
   go_loopg [6] k (fun j v wr=>cO E c g w0 wB (sE E.toEnv (kA E.toEnv k) fr x n g) (F.indexMore fr x) k j v wr)
   case atStart=>exact⟨n5,[u5],[q5],Cn,H7⟩
   case round =>
    clear H7;obtain⟨n8,acc,ps,hl,H8⟩:=hrel;have HL:=hid hl;clear hl;rcases gk with _|j
    ·exact absurd H8.out.eq H8.out.ne
    ·replace H8:Hid (Sx _ _ _ _ _ _ _ (fC E.toEnv (kA E.toEnv j) fr x acc n8 g) _):=H8
     conv at H8=>arg 1;arg 8;unfold fC
     obtain⟨_,_,_,hat,_⟩:=H8.out.rd.cells;have hsm:((n8:Nat):Int)<=1099511627776:=by have:=H8.out.rd.at_;have:=H8.out.rd.lie.small;omega
     cases h3:E.is n8 [44] with
     | true =>
      have d3:(E.word (n8:Nat)==[44])=true:=h3;have HLT8:=hid (gA h3);cases h4:E.is (n8+1) [93] with
      | false =>
       have d4:(E.word (((n8:Nat):Int)+1)==[93])=false:=Ey
       simp only [h3,h4,Bool.not_false,Bool.and_true,if_true] at H8;clear h3 h4;go_wp2_with fail;refine cA H8 ?_;intro w9 H9;clear H8 hat;obtain⟨_,_,_,hat,_⟩:=H9.out.rd.cells;go_wp2_with fail;refine OA H9 _ ?_;intro w10 H10;clear H9 hat;obtain⟨_,_,_,hat,_⟩:=H10.out.rd.cells;have hfz:=H10.out.rd.free 3;have H11:=ZA H10 HLT8;clear H10;obtain⟨n11,hm⟩:∃ m,m=n8+1:=⟨_,rfl⟩;simp only [<- hm] at H11;clear hm;go_wp2_with fail;generalize w10.setCell ⟨c,3,none⟩ (.int .i64 (((n8:Nat):Int)+1))=w11 at *;clear hat hsm hfz;refine iF (F:=.expr) H11 (hid (HA.out j Cr)) Ch ⟨rfl,rfl⟩ (fun _ _ h=>⟨rfl,fE.up h⟩) ?_;intro q12 u12 n12 w12 H12;clear H11;go_wp2_with (at_builtin;refine iC rfl _ _ rfl H12 HN.out.ex.fr.size rfl rfl Cr ?_);intro v13 w13 H13;clear H12;go_wp2_with fail;go_roundg j
       case measure=>omega
       case rel=>exact⟨n12,_,_,Cv,H13⟩
      | true =>
       have d4:(E.word (((n8:Nat):Int)+1)==[93])=true:=Ey
       simp only [h3,h4,Bool.not_true,Bool.and_false,Bool.false_eq_true,if_false] at H8;clear h4;go_wp2_with fail;refine cA H8 ?_;intro w9 H9;clear H8 hat;obtain⟨_,_,_,hat,_⟩:=H9.out.rd.cells;go_wp2_with fail;refine OA H9 _ ?_;intro w10 H10;clear H9 hat hsm;go_wp2_with fail;refine VJ HN (k2:=11) H10 Cr ?_;intro q11 w11 H11;clear H10 HN;go_wp2_with fail;refine nO H11 ?_;intro n12 b12 w12 hm H12;clear H11;simp only [<- hm] at H12;clear hm h3;go_wp2_with fail;refine FA H12 (fun _ _ h=>⟨rfl,fE.up h⟩) ?_;intro n13 w13 H13;clear H12;go_wp2_with fail;refine (eA H13 Cm).mono ?_;rintro e wz ⟨rfl,HZ⟩;clear H13;go_wp2_with fail;go_ret;exact fE.mk HZ.out
     | false =>
      have d3:(E.word (n8:Nat)==[44])=false:=h3;simp only [h3,Bool.false_and,Bool.false_eq_true,if_false] at H8;clear h3;go_wp2_with fail;refine cA H8 ?_;intro w9 H9;clear H8 hat hsm;go_wp2_with fail;refine VJ HN (k2:=11) H9 Cr ?_;intro q11 w11 H11;clear H9 HN;go_wp2_with fail;refine nO H11 ?_;intro n12 b12 w12 hm H12;clear H11;simp only [<- hm] at H12;clear hm;go_wp2_with fail;refine FA H12 (fun _ _ h=>⟨rfl,fE.up h⟩) ?_;intro n13 w13 H13;clear H12;go_wp2_with fail;refine (eA H13 Cm).mono ?_;rintro e wz ⟨rfl,HZ⟩;clear H13;go_wp2_with fail;go_ret;exact fE.mk HZ.out
end
section
open Go.RowKit
variable {E:Ev}{S:AB}{c n k:Nat}{g:Bool}{w w0 w1 w2:World}{v:Value}{ps:List Nat}{ts:List Tr}{rs:List Nat}{us:List Tr}{T X:R Tr}
theorem gR {p Bn Br fr t0:Nat}{wd:Int}{kv:Value} (H:aB E S) (h:Rd E c n g w) (hO:YC w p 34 wd fr t0 kv) (hbn:w.cell? ⟨Bn,0,none⟩=some (.pointer (some ⟨p,0,none⟩))) (hbr:w.cell? ⟨Br,0,none⟩=some (.pointer (some ⟨c,0,none⟩)))
  (hx:Bn≠c/\Bn≠p/\Br≠c/\Br≠p/\c < p) (hz:E.zo=none∨E.zb≠p) (hne:zM E.toEnv S .call wd n g≠.out) :
  Calls Tryz.prog 243 #[.pointer (some ⟨Bn,0,none⟩),.pointer (some ⟨Br,0,none⟩)] w (mV E c g [c,p] (fun wd' w'=>YC w' p 34 wd' fr t0 kv) (zM E.toEnv S .call wd n g) w):=by
 obtain⟨hx1,hx2,hx3,hx4,hx5⟩:=hx;have HD:=hid H;clear H;have HR:=hid h;have HO:=hid hO;obtain⟨_,hk1,_,_,_⟩:=hO.cells;have hne2:∀ (b:Bool),decide ((0:Int)<=wd)=b->zM E.toEnv S .call wd n g=if b then .bad n else (S.t .expr n g).andThen fun x n1=>if E.is n1 [46,46,46] then .ok (x,(n1:Int)) (n1+1) else .ok (x,wd) n1:=by
  intro b hb;unfold zM;by_cases h0:(0:Int)<=wd
  ·rw [if_pos h0,<- hb,decide_eq_true h0];rfl
  ·rw [if_neg h0,<- hb,decide_eq_false h0];rfl
 cases d0:decide ((0:Int)<=wd) with
 | true =>
  have hB:=hne2 true d0;rw [if_pos rfl] at hB;have HB:=hid hB;clear hne2 hB hne h hO;go_enter Tryz.func243,Tryz.ntmps243;go_wp2_with fail;refine (VH HR.out).mono ?_;rintro e w' ⟨rfl,rfl⟩;refine⟨rfl,?_⟩;rw [HB.out];exact⟨rfl,⟨g,HR.out⟩,Fr.refl _ _⟩
 | false =>
  have hB:=hne2 false d0;rw [if_neg Ch] at hB;have HC:=HD.out.t .expr c n g w Ch (DA rfl h.at_) h;cases hc:S.t .expr n g with
  | out=>rw [hc] at hB;exact absurd hB hne
  | bad m =>
   rw [hc] at HC hB;have HC2:=hid (HC Cm);have HB:=hid hB;clear hne2 hB hne h hO HC hc;go_enter Tryz.func243,Tryz.ntmps243;go_wp2_with fail;refine HC2.out.mono ?_;rintro e w' ⟨rfl,q1,q2⟩;refine⟨rfl,?_⟩;rw [HB.out];exact⟨rfl,q1,q2.weaken (fun i _ hi=>F5)⟩
  | ok x n1 =>
   rw [hc] at HC hB;have HC2:=hid (HC Cm);have HB:=hid hB;have hpw:=hO.lt;clear hne2 hB hne h hO HC hc;go_enter Tryz.func243,Tryz.ntmps243;go_wp2_with fail;refine HC2.out.mono ?_;rintro e w1 ⟨q,rfl,q1,q2,q3⟩;have hbn1:=q3.cell (a:=⟨Bn,0,none⟩) (by simpa using hx1) hbn;have hbr1:=q3.cell (a:=⟨Br,0,none⟩) (by simpa using hx3) hbr;have HS:=hid (And.intro q1 (And.intro q2 (And.intro q3 (HO.out.later q3 Cn))));clear q1 q2 q3 HC2 hbn hbr hk1;have HNX:=hid (pE HS.out.1);cases h1:E.is n1 [46,46,46] with
   | false =>
    have d1:(E.word (n1:Nat)==[46,46,46])=false:=h1;have hB:=HB.out;simp only [mA,h1,Bool.false_eq_true,if_false] at hB;have HB2:=hid hB;clear hB h1;go_wp2_with fail;refine HNX.out.mono ?_;rintro e w2 ⟨rfl,hb⟩;go_wp2_with fail;go_ret;obtain⟨q1,q2,q3,q4⟩:=HS.out;rw [HB2.out];have hf:=q3.trans (lA c hb);exact⟨q,rfl,q1.below hb,EA.later q2 (lA c hb) (fun i hi=>Fh) (C' _) hb.size,hf.weaken (fun i _ hi=>F5),q4.later (lA c hb) Cn⟩
   | true =>
    have d1:(E.word (n1:Nat)==[46,46,46])=true:=h1;have hB:=HB.out;simp only [mA,h1,if_true] at hB;have HB2:=hid hB;have HLT:=hid (gA h1);clear hB h1;go_wp2_with fail;refine HNX.out.mono ?_;rintro e w2 ⟨rfl,hb⟩;obtain⟨q1,q2,q3,q4⟩:=HS.out;have r1:=q1.below hb;have r3:=q3.trans (lA c hb);have r2:EA w2 w.heap.size w2.heap.size q x:=EA.later q2 (lA c hb) (fun i hi=>Fh) (C' _) hb.size;have r4:=q4.later (lA c hb) Cn;have hbn2:=aA hb hbn1;have hbr2:=aA hb hbr1;obtain⟨_,_,_,hat,_⟩:=r1.cells;obtain⟨_,hk1,_,_,_⟩:=r4.cells;have hfz:=r4.free 1;have hpc:c≠p:=Cf
    have HT:=hid (And.intro r1 (And.intro r2 (And.intro r3 r4)));clear q1 q2 q3 q4 r1 r2 r3 r4 HS hbn1 hbr1 hb HNX;go_wp2_with fail
    go_region_held3 (fun w'=>w'.cell? ⟨Bn,0,none⟩=some (.pointer (some ⟨p,0,none⟩))/\w'.cell? ⟨Br,0,none⟩=some (.pointer (some ⟨c,0,none⟩))/\w'.cell? ⟨c,3,none⟩=some (.int .i64 (n1:Int)))
     (first|(refine⟨?_,?_,?_⟩;all_goals assumption)|(go_split_ands;refine⟨?_,?_,?_⟩;all_goals exact kH ‹_› ‹_›))
     (first|fail)
    obtain⟨r1,r2,r3,r4⟩:=HT.out;have f1:Fr [p] w2 (w2.setCell ⟨p,1,none⟩ (.int .i64 (n1:Int))).drew:=(NA p 1 w2 _).drew;have s1:Rd E c n1 g (w2.setCell ⟨p,1,none⟩ (.int .i64 (n1:Int))).drew:=r1.later f1 (fun i hi=>Ec) (hz.imp id (fun h m=>h Fx));have s4:YC (w2.setCell ⟨p,1,none⟩ (.int .i64 (n1:Int))).drew p 34 (n1:Int) fr t0 kv:=YC.named_ (w:=w2) r4 _;have s2:EA (w2.setCell ⟨p,1,none⟩ (.int .i64 (n1:Int))).drew w.heap.size w2.heap.size q x:=EA.later r2 f1 (fun i hi=>by simp at hi;subst hi;omega) (C' _) (C' _);have s3:Fr [c,p] w (w2.setCell ⟨p,1,none⟩ (.int .i64 (n1:Int))).drew:=(r3.weaken (fun i _ hi=>F5)).trans (f1.weaken (fun i _ hi=>F5));have hsz:(w2.setCell ⟨p,1,none⟩ (.int .i64 (n1:Int))).drew.heap.size=w2.heap.size:=by simp [World.drew]
    obtain⟨_,_,_,hat3,_⟩:=s1.cells;have hfz3:=s1.free 3;have hsm:((n1:Nat):Int)<=1099511627776:=by have:=s1.at_;have:=s1.lie.small;omega
    have hbr3:(w2.setCell ⟨p,1,none⟩ (.int .i64 (n1:Int))).drew.cell? ⟨Br,0,none⟩=some (.pointer (some ⟨c,0,none⟩)):=kH hx4 hbr2;generalize (w2.setCell ⟨p,1,none⟩ (.int .i64 (n1:Int))).drew=w3 at *;have HT:=hid (And.intro s1 (And.intro s2 (And.intro s3 (And.intro s4 hsz))));clear r1 r2 r3 r4 f1 s1 s2 s3 s4 hsz hbn2 hbr2 hat hk1 hfz;go_wp2_with fail;go_ret;obtain⟨s1,s2,s3,s4,hsz⟩:=HT.out;rw [HB2.out];have f2:Fr [c] w3 (w3.setCell ⟨c,3,none⟩ (.int .i64 ((n1:Int)+1))):=NA c 3 w3 _;refine⟨q,rfl,by simpa using s1.moved (n1+1) (by have:=HLT.out;omega),?_,s3.trans (f2.weaken (fun i _ hi=>F5)),s4.later f2 Cn⟩;exact EA.later s2 f2 (fun i hi=>Fh) Cf Cn
end
section
open Go.RowKit
variable {E:Ev}{S:AB}{c n k:Nat}{g:Bool}{w w0 w1 w2:World}{v:Value}{ps:List Nat}{ts:List Tr}{rs:List Nat}{us:List Tr}{T X:R Tr}
theorem aU {fr t0 p q:Nat}{x:Tr}{kv:Value} (H:∀ j,j<=k->aB E (kA E.toEnv j)) (hkk:k<=1000000000000) (h:Rd E c n g w) (hnd:Nd E c w0 p 0 (-1) fr t0 kv [q] [x] [] [] w) (hr:bG E.toEnv (kA E.toEnv k) fr x n g≠.out) :
  Calls Tryz.prog 214 #[.pointer (some ⟨c,0,none⟩),.pointer (some ⟨p,0,none⟩)] w (fE E c g (bG E.toEnv (kA E.toEnv k) fr x n g) w0 p):=by
 have HA:=hid H;clear H;have hpw:=hnd.opn.blk.lt;have hcp:c < p:=by have:=hnd.cw;have:=hnd.opn.low;omega
 have hB1:=(J' w.heap.size w).alloc (C' _) (Obj.cells #[.pointer (some ⟨c,0,none⟩)] 54);have hB2:=(J' (w.alloc (.cells #[.pointer (some ⟨c,0,none⟩)] 54)).heap.size (w.alloc (.cells #[.pointer (some ⟨c,0,none⟩)] 54))).alloc (C' _) (Obj.cells #[.pointer (some ⟨p,0,none⟩)] 51);have hbr:=aA hB2 (nE w (.pointer (some ⟨c,0,none⟩)) 54);have hbn:=nE (w.alloc (.cells #[.pointer (some ⟨c,0,none⟩)] 54)) (.pointer (some ⟨p,0,none⟩)) 51;have H0:=Sx.startN h hnd hr rfl
 conv at H0=>arg 1;arg 8;unfold bG
 have H1:=FF (FF H0 (.cells #[.pointer (some ⟨c,0,none⟩)] 54)) (.cells #[.pointer (some ⟨p,0,none⟩)] 51);clear H0;rw [World.size_alloc] at hbn;have hfz:=H1.out.ex.opn.blk.free 0;obtain⟨hk0,_,_,_,_⟩:=H1.out.ex.opn.blk.cells;have hzp:=hnd.z.imp id (fun h=>h.1);have HZP:=hid hzp;clear h hnd hr hB1 hB2 hzp;go_enter Tryz.func214,Tryz.ntmps214;go_upto_region 1 with fail;generalize (w.alloc (.cells #[.pointer (some ⟨c,0,none⟩)] 54)).alloc (.cells #[.pointer (some ⟨p,0,none⟩)] 51)=wB at *;generalize hBr:w.heap.size=Br at *;have H2:Hid (Sx _ _ _ _ _ _ _ _ (wB.setCell ⟨p,0,none⟩ (.int .u8 34))):=dB H1 34;clear H1;have hn1:Br≠p:=Cf
 have hn2:Br+1≠p:=Cf
 have hbr2:=kH (N:=p) (j:=0) (x:=.int .u8 34) (a:=⟨Br,0,none⟩) hn1 hbr;have hbn2:=kH (N:=p) (j:=0) (x:=.int .u8 34) (a:=⟨Br+1,0,none⟩) hn2 hbn;go_wp2_with fail;generalize wB.setCell ⟨p,0,none⟩ (.int .u8 34)=wC at *;clear hfz hk0 hbr hbn;have hh:=H2.out;have hrr:rows E.toEnv (kA E.toEnv k) [40] [44] [41] .call n g≠.out:=fun e=>hh.ne (by rw [hh.eq,e];rfl)
 have hcall:=EO hh.rd k Cf 40 44 41 [] [] [] .call 243 #[] #[.pointer (some ⟨Br+1,0,none⟩),.pointer (some ⟨Br,0,none⟩)] (fun _=>cF Ci _ _) [c,p]
  (fun i hi=>by have:=hh.rd.lt;have:=hh.ex.opn.blk.lt;simp at hi;omega) Cm (fun wd w'=>YC w' p 34 wd fr t0 kv)
  (fun wd a b s hs hb=>by unfold YC at s ⊢;rw [hb p hh.ex.opn.blk.lt Cf];exact s) hh.ex.opn.blk
  (fun j n1 word w1 hj hR hF hS hne=>gR (HA.out j Cf) hR hS (hF.cell (a:=⟨Br+1,0,none⟩) Cn hbn2) (hF.cell (a:=⟨Br,0,none⟩) Cn hbr2) ⟨Cf,Cf,Cf,Cf,hcp⟩ HZP.out hne) hrr
 have HC:=hid hcall;have HF:=hid (And.intro hcp (And.intro hpw hBr));clear hcall hh hn1 hn2;have HB:=hid (And.intro hbr2 hbn2);refine HC.out.mono ?_;intro e w' hA;clear HC;have hh:=H2.out;cases hc:rows E.toEnv (kA E.toEnv k) [40] [44] [41] .call n g with
 | out=>exact absurd hc hrr
 | bad m =>
  rw [hc] at hA hh;obtain⟨rfl,q1,q2⟩:=hA;refine⟨rfl,fE.up ?_⟩;rw [hh.eq];exact⟨rfl,q1,hh.fr.trans' q2 (fun i hi=>by have:=hh.ex.opn.low;simp at hi;rcases hi with e|e;exact .inl (by simp [e]);exact .inr Cf)⟩
 | ok u n1 =>
  rw [hc] at hA;have H3:=H2;rw [hc] at H3;obtain⟨va,rs,rfl,q1,q2,q3,q4,q5⟩:=hA;simp only [mA] at H3;have H4:=oD H3 u.2;clear H3;have hsz:(wC.setCell ⟨p,1,none⟩ (.int .i64 u.2)).heap.size=wC.heap.size:=Cm
  have f1:Fr [c] (wC.setCell ⟨p,1,none⟩ (.int .i64 u.2)) w':=by
   refine⟨q3.os,q3.tape,q3.output,by rw [hsz];exact q3.size,fun i hi hx=>?_⟩;by_cases hip:i=p
   ·subst hip;have a1:w'.heap[i]?=_:=q4;have a2:(wC.setCell ⟨i,1,none⟩ (.int .i64 u.2)).heap[i]?=_:=H4.out.ex.opn.blk;rw [a1,a2]
   ·rw [q3.block i (by rw [<- hsz];exact hi) (by simp at hx;simp;omega)];exact ((NA p 1 wC (.int .i64 u.2)).block i (by rw [<- hsz];exact hi) (by simpa using hip)).symm
  have hD:∀ b,NI wC va w' b->NI (wC.setCell ⟨p,1,none⟩ (.int .i64 u.2)) va w' b:=fun b hb=>⟨by rw [hsz];exact hb.1,hb.2⟩
  have H5:Hid (Sx E c n1 g w0 (Rw E c (wC.setCell ⟨p,1,none⟩ (.int .i64 u.2)) va rs u.1 [] []) _ _ w') :=
   (H4.out.step f1 q1 rfl).with ⟨f1,by rw [hsz];exact hh.rd.lt,by rw [hsz];exact q2.1,fA.kept (fun _ _=>rfl) hD _ _ q2.2,trivial,hh.rd.zlt.imp id (fun h e=>by have:=(q2.1.lt _ e).1;omega)⟩ Rw.later
  have hbr3:=q3.cell (a:=⟨Br,0,none⟩) (by have:=HF.out;simp;omega) HB.out.1;have hbn3:=q3.cell (a:=⟨Br+1,0,none⟩) (by have:=HF.out;simp;omega) HB.out.2;generalize wC.setCell ⟨p,1,none⟩ (.int .i64 u.2)=wV at *;have HL:Hid (rs.length<=1099511627776):=hid Cf;have HX3:=hid (And.intro hbr3 hbn3);have hcw:=H5.out.cw;have HN3:=hid (And.intro (show Br≠c by have:=HF.out;omega) (show Br+1≠c by have:=HF.out;omega));clear hh q1 q2 q3 q4 q5 hsz f1 hD hc hrr H2 HB hbr2 hbn2 hcw;obtain⟨u1,u2⟩:=u;simp only [] at H4 H5;have H6:=H5;clear H5;obtain⟨hbr3,hbn3⟩:=HX3.out;go_wp2_with fail;refine (XN H6.out.rd 11 H6.out.ex HL.out).mono ?_;rintro e w7 ⟨q7,rfl,b1,b2,b3⟩;have H7:Hid (Sx E c n1 g w0 (Nd E c w0 p 34 u2 fr t0 kv [q] [x] ([]++[q7]) ([]++[xC 11 u1 n1])) _ _ w7) :=
   ⟨b1,H6.out.fr.trans (lA c b3),H6.out.cw,H4.out.ex.kid (H6.out.ex.fr.trans (lA c b3)) b2,Nd.later,H6.out.eq,H6.out.ne⟩
  have hbr7:=aA b3 hbr3;have hbn7:=aA b3 hbn3;clear b1 b2 b3 H6 H4 hbr3 hbn3 HX3;go_wp2_with fail;refine (NH H7.out.rd 41 []).mono ?_;intro e w8 hD;have hh:=H7.out;cases h1:want E.toEnv [41] n1 with
  | out=>rw [h1] at hD;exact hD.elim
  | bad m =>
   rw [h1] at hD hh;obtain⟨rfl,d1,d2⟩:=hD;exact⟨rfl,fE.up (hh.bad rfl d1 d2)⟩
  | ok u8 n8 =>
   rw [h1] at hD hh;obtain⟨rfl,d1,d2⟩:=hD;have H8:=hid (hh.step d2 d1 rfl);have hbr8:=d2.cell (a:=⟨Br,0,none⟩) (by have:=HN3.out.1;simpa using this) hbr7;have hbn8:=d2.cell (a:=⟨Br+1,0,none⟩) (by have:=HN3.out.2;simpa using this) hbn7;simp only [mA] at H8;clear d1 d2 hh H7 hbr7 hbn7 h1;go_wp2_with fail;refine (eA H8 Cm).mono ?_;rintro e wz ⟨rfl,HZ⟩;clear H8 hbr8 hbn8;go_wp2_with fail;go_ret;exact fE.mk HZ.out
end
section
open Go.RowKit
variable {E:Ev}{S:AB}{c n k:Nat}{g:Bool}{w w0 w1 w2:World}{v:Value}{ps:List Nat}{ts:List Tr}{rs:List Nat}{us:List Tr}{T X:R Tr}
theorem xN (k:UInt8):((k.toNat:Int)==26)=(k==26):=by
 rw [Bool.eq_iff_iff,beq_iff_eq,beq_iff_eq,<- Av]
 show _↔k.toNat=26
 omega
theorem DX (k:UInt8):((k.toNat:Int)==29)=(k==29):=by
 rw [Bool.eq_iff_iff,beq_iff_eq,beq_iff_eq,<- Av]
 show _↔k.toNat=29
 omega
theorem RX (k:UInt8):((k.toNat:Int)==30)=(k==30):=by
 rw [Bool.eq_iff_iff,beq_iff_eq,beq_iff_eq,<- Av]
 show _↔k.toNat=30
 omega
theorem MS (k:UInt8):((k.toNat:Int)==33)=(k==33):=by
 rw [Bool.eq_iff_iff,beq_iff_eq,beq_iff_eq,<- Av]
 show _↔k.toNat=33
 omega
theorem JX (k:UInt8):((k.toNat:Int)==41)=(k==41):=by
 rw [Bool.eq_iff_iff,beq_iff_eq,beq_iff_eq,<- Av]
 show _↔k.toNat=41
 omega
theorem LX (k:UInt8):((k.toNat:Int)==42)=(k==42):=by
 rw [Bool.eq_iff_iff,beq_iff_eq,beq_iff_eq,<- Av]
 show _↔k.toNat=42
 omega
theorem OX (k:UInt8):((k.toNat:Int)==43)=(k==43):=by
 rw [Bool.eq_iff_iff,beq_iff_eq,beq_iff_eq,<- Av]
 show _↔k.toNat=43
 omega
theorem QX (k:UInt8):((k.toNat:Int)==44)=(k==44):=by
 rw [Bool.eq_iff_iff,beq_iff_eq,beq_iff_eq,<- Av]
 show _↔k.toNat=44
 omega
theorem EX (k:UInt8):((k.toNat:Int)==47)=(k==47):=by
 rw [Bool.eq_iff_iff,beq_iff_eq,beq_iff_eq,<- Av]
 show _↔k.toNat=47
 omega
theorem gS (k:UInt8):((k.toNat:Int)==50)=(k==50):=by
 rw [Bool.eq_iff_iff,beq_iff_eq,beq_iff_eq,<- Av]
 show _↔k.toNat=50
 omega
theorem qV (k:UInt8):((k.toNat:Int)==53)=(k==53):=by
 rw [Bool.eq_iff_iff,beq_iff_eq,beq_iff_eq,<- Av]
 show _↔k.toNat=53
 omega
theorem Sh.two {u:Tr} (h:Sh u) (hk:okN u.kind u.kids.length=okN 30 u.kids.length):∃ a b,u.kids=[a,b]:=by
 have ha:=h.arity;rw [hk] at ha
 match hu:u.kids with
 | []=>rw [hu] at ha;exact absurd ha (by show ¬ okN 30 0=true;decide)
 | [_]=>rw [hu] at ha;exact absurd ha (by show ¬ okN 30 1=true;decide)
 | [a,b]=>exact⟨a,b,rfl⟩
 | a::b::d::r=>rw [hu] at ha;exact absurd ha (by show ¬ okN 30 (r.length+3)=true;simp [okN,show arT 30=(2,false) from rfl])
theorem Sh.one {u:Tr} (h:Sh u) (hk:okN u.kind u.kids.length=okN 50 u.kids.length):∃ a,u.kids=[a]:=by
 have ha:=h.arity;rw [hk] at ha
 match hu:u.kids with
 | []=>rw [hu] at ha;exact absurd ha (by show ¬ okN 50 0=true;decide)
 | [a]=>exact⟨a,rfl⟩
 | a::b::r=>rw [hu] at ha;exact absurd ha (by show ¬ okN 50 (r.length+2)=true;simp [okN,show arT 50=(1,false) from rfl])
theorem nN {D:Nat->Prop}{q:Nat}{u:Tr} (h:nA w D q u) (hs:Sh u):Calls Tryz.prog 245 #[.pointer (some ⟨q,0,none⟩)] w fun e w'=>e=.returned (.bool (plain u))/\w=w':=by
 obtain⟨_,h0,_,_,_,_⟩:=nA.cells h;cases a:(u.kind==26) with
 | true =>
  have d1:((u.kind.toNat:Int)==26)=true:=by rw [xN];exact a
  have hp:plain u=true:=by unfold plain;rw [a];rfl
  have HP:=hid hp;clear hp a hs h;go_enter Tryz.func245,Tryz.ntmps245;go_wp2_with fail
  all_goals exact B8
 | false =>
  have d1:((u.kind.toNat:Int)==26)=false:=by rw [xN];exact a
  cases b:(u.kind==29) with
  | false =>
   have d2:((u.kind.toNat:Int)==29)=false:=by rw [DX];exact b
   have hp:plain u=false:=by unfold plain;rw [a,b];rfl
   have HP:=hid hp;clear hp a b hs h;go_enter Tryz.func245,Tryz.ntmps245;go_wp2_with fail
   all_goals exact B8
  | true =>
   have d2:((u.kind.toNat:Int)==29)=true:=by rw [DX];exact b
   obtain⟨x,y,hk⟩:=Sh.two hs (by rw [eq_of_beq b];rfl);obtain⟨b9,o9,c9,px,k4,k5,ht⟩:=nA.first h hk;obtain⟨_,h1,_,_,_,_⟩:=nA.cells ht;have hp:plain u=(x.kind==26):=by unfold plain;rw [a,b,hk];simp
   cases d:(x.kind==26) with
   | true =>
    have d3:((x.kind.toNat:Int)==26)=true:=by rw [xN];exact d
    have HP:=hid (hp.trans d);clear hp a b d hs h ht hk;go_enter Tryz.func245,Tryz.ntmps245;go_wp2_with fail
    all_goals exact B8
   | false =>
    have d3:((x.kind.toNat:Int)==26)=false:=by rw [xN];exact d
    have HP:=hid (hp.trans d);clear hp a b d hs h ht hk;go_enter Tryz.func245,Tryz.ntmps245;go_wp2_with fail
    all_goals exact B8
theorem XQ {D:Nat->Prop}{q:Nat}{u:Tr} (hr:Rd E c n g w) (h:nA w D q u) (hs:Sh u):Calls Tryz.prog 217 #[.pointer (some ⟨c,0,none⟩),.pointer (some ⟨q,0,none⟩)] w fun e w'=>e=.returned (.bool (filled g u))/\w=w':=by
 obtain⟨_,h0,_,_,_,_⟩:=nA.cells h;obtain⟨_,_,_,_,hg⟩:=hr.cells;have hB:∀ b,filled g u=b->Hid (filled g u=b):=fun _ h=>h
 cases a41:(u.kind==41) with
 | true =>
  have d41:((u.kind.toNat:Int)==41)=true:=by rw [JX];exact a41
  have HP:=hB true (by unfold filled;rw [if_pos (by simp [eq_of_beq a41])]);clear hB hs h hr a41;go_enter Tryz.func217,Tryz.ntmps217;go_wp2_with fail
  all_goals exact B8
 | false =>
  have d41:((u.kind.toNat:Int)==41)=false:=by rw [JX];exact a41
  cases a42:(u.kind==42) with
  | true =>
   have d42:((u.kind.toNat:Int)==42)=true:=by rw [LX];exact a42
   have HP:=hB true (by unfold filled;rw [if_pos (by simp [eq_of_beq a42])]);clear hB hs h hr a41 a42;go_enter Tryz.func217,Tryz.ntmps217;go_wp2_with fail
   all_goals exact B8
  | false =>
   have d42:((u.kind.toNat:Int)==42)=false:=by rw [LX];exact a42
   cases a43:(u.kind==43) with
   | true =>
    have d43:((u.kind.toNat:Int)==43)=true:=by rw [OX];exact a43
    have HP:=hB true (by unfold filled;rw [if_pos (by simp [eq_of_beq a43])]);clear hB hs h hr a41 a42 a43;go_enter Tryz.func217,Tryz.ntmps217;go_wp2_with fail
    all_goals exact B8
   | false =>
    have d43:((u.kind.toNat:Int)==43)=false:=by rw [OX];exact a43
    cases a44:(u.kind==44) with
    | true =>
     have d44:((u.kind.toNat:Int)==44)=true:=by rw [QX];exact a44
     have HP:=hB true (by unfold filled;rw [if_pos (by simp [eq_of_beq a44])]);clear hB hs h hr a41 a42 a43 a44;go_enter Tryz.func217,Tryz.ntmps217;go_wp2_with fail
     all_goals exact B8
    | false =>
     have d44:((u.kind.toNat:Int)==44)=false:=by rw [QX];exact a44
     cases a47:(u.kind==47) with
     | true =>
      have d47:((u.kind.toNat:Int)==47)=true:=by rw [EX];exact a47
      have HP:=hB true (by unfold filled;rw [if_pos (by simp [eq_of_beq a47])]);clear hB hs h hr a41 a42 a43 a44 a47;go_enter Tryz.func217,Tryz.ntmps217;go_wp2_with fail
      all_goals exact B8
     | false =>
      have d47:((u.kind.toNat:Int)==47)=false:=by rw [EX];exact a47
      have hno:¬ (u.kind=41∨u.kind=42∨u.kind=43∨u.kind=44∨u.kind=47):=by
       simp only [beq_eq_false_iff_ne] at a41 a42 a43 a44 a47;simp [a41,a42,a43,a44,a47]
      cases a30:(u.kind==30) with
      | true =>
       have d30:((u.kind.toNat:Int)==30)=true:=by rw [RX];exact a30
       obtain⟨x,y,hk⟩:=Sh.two hs (by rw [eq_of_beq a30]);obtain⟨b9,o9,c9,px,k4,k5,ht⟩:=nA.first h hk;have hf:filled g u=(!g&&plain x):=by unfold filled;rw [if_neg hno];simp only [eq_of_beq a30,hk,if_true]
       have hpl:=nN ht (Shs.mem hs.kids Gu);obtain⟨bp,hbp⟩:∃ b,plain x=b:=⟨_,rfl⟩;rw [hbp] at hf hpl;have HPL:=hid hpl;cases g with
       | true =>
        have HP:=hB false hf;clear hB hs h hr hf hpl hbp hno a41 a42 a43 a44 a47 a30 ht hk;go_enter Tryz.func217,Tryz.ntmps217;go_wp2_with fail
        all_goals exact B8
       | false =>
        have HP:=hB bp (by rw [hf];simp);clear hB hs h hr hf hpl hbp hno a41 a42 a43 a44 a47 a30 ht hk;go_enter Tryz.func217,Tryz.ntmps217;go_wp2_with fail;refine HPL.out.mono ?_;rintro e w2 ⟨rfl,rfl⟩;cases bp <;> exact Cd
      | false =>
       have d30:((u.kind.toNat:Int)==30)=false:=by rw [RX];exact a30
       have hf:filled g u=(!g&&plain u):=by unfold filled;rw [if_neg hno];simp only [show ¬ u.kind=30 from by simpa using a30,if_false]
       have hpl:=nN h hs;obtain⟨bp,hbp⟩:∃ b,plain u=b:=⟨_,rfl⟩;rw [hbp] at hf hpl;have HPL:=hid hpl;cases g with
       | true =>
        have HP:=hB false hf;clear hB hs h hr hf hpl hbp hno a41 a42 a43 a44 a47 a30;go_enter Tryz.func217,Tryz.ntmps217;go_wp2_with fail
        all_goals exact B8
       | false =>
        have HP:=hB bp (by rw [hf];simp);clear hB hs h hr hf hpl hbp hno a41 a42 a43 a44 a47 a30;go_enter Tryz.func217,Tryz.ntmps217;go_wp2_with fail;refine HPL.out.mono ?_;rintro e w2 ⟨rfl,rfl⟩;cases bp <;> exact Cd
theorem fW {D:Nat->Prop}{q:Nat}{u:Tr} (hr:Rd E c n g w) (h:nA w D q u) (hs:Sh u):Calls Tryz.prog 249 #[.pointer (some ⟨c,0,none⟩),.pointer (some ⟨q,0,none⟩)] w fun e w' =>
  match only u n with|.ok x _=>∃ px,e=.returned (.pointer (some ⟨px,0,none⟩))/\nA w D px x/\w=w'|_=>e=Up n/\w=w':=by
 obtain⟨_,h0,_,_,_,_⟩:=nA.cells h;cases a:(u.kind==50) with
 | false =>
  have d1:((u.kind.toNat:Int)==50)=false:=by rw [gS];exact a
  have d2:((u.kind.toNat:Int) != 50)=true:=by rw [bne,d1];rfl
  have ho:only u n=.bad n:=by unfold only;rw [if_neg (by simpa using a)]
  rw [ho];have HF:=hid (VH hr);clear ho a hs h hr;go_enter Tryz.func249,Tryz.ntmps249;go_wp2_with fail;refine HF.out.mono ?_;rintro e w' ⟨rfl,rfl⟩;exact⟨rfl,rfl,rfl⟩
 | true =>
  have d1:((u.kind.toNat:Int)==50)=true:=by rw [gS];exact a
  have d2:((u.kind.toNat:Int) != 50)=false:=by rw [bne,d1];rfl
  obtain⟨x,hk⟩:=Sh.one hs (by rw [eq_of_beq a]);obtain⟨b9,o9,c9,px,k4,k5,ht⟩:=nA.first h hk;have ho:only u n=.ok x n:=by unfold only;rw [if_pos (eq_of_beq a),hk]
  rw [ho];have HT:=hid ht;clear ho a hs h hr hk ht;go_enter Tryz.func249,Tryz.ntmps249;go_wp2_with fail;go_ret;exact⟨px,rfl,HT.out,rfl⟩
end
