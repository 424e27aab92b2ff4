import Derived.Test.YtfmpphplbdojbaaGreatDoorQAI
namespace Go.Proofs.YtfmpphplbdojbaaGreatDoor
open Lib(hid)
set_option linter.all false
set_option maxHeartbeats 40000000
set_option maxRecDepth 100000
section
open Go.RowKit
variable {E:Ev}{S:AB}{c n:Nat}{g:Bool}{w:World}
theorem YW (H:aB E S) (h:Rd E c n g w) (hr:fnB E.toEnv S n g≠.out) :
  Calls Tryz.prog 112 #[.pointer (some ⟨c,0,none⟩)] w (Ans E c g (fnB E.toEnv S n g) w):=by
 have HD:=hid H;clear H;have H0:=Sx.start h hr rfl
 conv at H0=>arg 1;arg 8;unfold fnB
 try simp only [bs,reduceCtorEq] at H0
 clear h hr;go_enter Tryz.func112,Tryz.ntmps112;go_wp2_with fail;refine yB H0 8 ?_;intro p w1 H2;clear H0;go_wp2_with fail;refine FA H2 (fun _ _ h=>⟨rfl,h⟩) ?_;intro n4 w3 H5;clear H2;go_wp2_with fail;refine IA H5 0 ?_;intro q7 w6 H8;clear H5;go_wp2_with fail;cases h9:E.is n4 [40] with
 | true =>
  have d10:(E.word (n4:Nat)==[40])=true:=h9;simp only [h9,bs,reduceCtorEq] at H8;have HLTh9:=hid (gA h9);have HYh9:=hid h9;clear h9;refine cA H8 ?_;intro w11 H12;clear H8;have H13:=pB H12;clear H12;go_wp2_with fail;refine jA (F:=.params) H13 HD (by decide) ⟨rfl,rfl⟩ (fun _ _ h=>⟨rfl,h⟩) ?_;intro q16 t17 n15 w14 H18;clear H13;go_wp2_with fail;refine lG H18 (fun _ _ h=>⟨rfl,h⟩) ?_;intro q21 t22 n20 w19 H23;clear H18;go_wp2_with fail;refine IA H23 0 ?_;intro q25 w24 H26;clear H23;go_wp2_with fail;cases h27:E.is n20 [91] with
  | true =>
   have d28:(E.word (n20:Nat)==[91])=true:=h27;simp only [h27,bs,reduceCtorEq] at H26;have HLTh27:=hid (gA h27);have HYh27:=hid h27;clear h27;refine cA H26 ?_;intro w29 H30;clear H26;have H31:=pB H30;clear H30;go_wp2_with fail;refine jA (F:=.tparams) H31 HD (by decide) ⟨rfl,rfl⟩ (fun _ _ h=>⟨rfl,h⟩) ?_;intro q34 t35 n33 w32 H36;clear H31;go_wp2_with fail;refine jA (F:=.signature) H36 HD (by decide) ⟨rfl,rfl⟩ (fun _ _ h=>⟨rfl,h⟩) ?_;intro q39 t40 n38 w37 H41;clear H36;go_wp2_with fail;refine IA H41 0 ?_;intro q43 w42 H44;clear H41;go_wp2_with fail;cases h45:E.is n38 [123] with
   | true =>
    have d46:(E.word (n38:Nat)==[123])=true:=h45;simp only [h45,bs,reduceCtorEq] at H44;have HLTh45:=hid (gA h45);have HYh45:=hid h45;clear h45;refine cA H44 ?_;intro w47 H48;clear H44;have H49:=pB H48;clear H48;go_wp2_with fail;refine jA (F:=.block) H49 HD (by decide) ⟨rfl,rfl⟩ (fun _ _ h=>⟨rfl,h⟩) ?_;intro q52 t53 n51 w50 H54;clear H49;go_wp2_with fail;refine (eA H54 (by simp)).mono ?_;rintro e wz ⟨rfl,HA⟩;clear H54;go_wp2_with fail;go_ret;exact HA.out
   | false =>
    have d46:(E.word (n38:Nat)==[123])=false:=h45;simp only [h45,bs,reduceCtorEq] at H44;clear h45;refine cA H44 ?_;intro w55 H56;clear H44;go_wp2_with fail;refine (eA H56 (by simp)).mono ?_;rintro e wz ⟨rfl,HA⟩;clear H56;go_wp2_with fail;go_ret;exact HA.out
  | false =>
   have d28:(E.word (n20:Nat)==[91])=false:=h27;simp only [h27,bs,reduceCtorEq] at H26;clear h27;refine cA H26 ?_;intro w57 H58;clear H26;go_wp2_with fail;refine jA (F:=.signature) H58 HD (by decide) ⟨rfl,rfl⟩ (fun _ _ h=>⟨rfl,h⟩) ?_;intro q61 t62 n60 w59 H63;clear H58;go_wp2_with fail;refine IA H63 0 ?_;intro q65 w64 H66;clear H63;go_wp2_with fail;cases h67:E.is n60 [123] with
   | true =>
    have d68:(E.word (n60:Nat)==[123])=true:=h67;simp only [h67,bs,reduceCtorEq] at H66;have HLTh67:=hid (gA h67);have HYh67:=hid h67;clear h67;refine cA H66 ?_;intro w69 H70;clear H66;have H71:=pB H70;clear H70;go_wp2_with fail;refine jA (F:=.block) H71 HD (by decide) ⟨rfl,rfl⟩ (fun _ _ h=>⟨rfl,h⟩) ?_;intro q74 t75 n73 w72 H76;clear H71;go_wp2_with fail;refine (eA H76 (by simp)).mono ?_;rintro e wz ⟨rfl,HA⟩;clear H76;go_wp2_with fail;go_ret;exact HA.out
   | false =>
    have d68:(E.word (n60:Nat)==[123])=false:=h67;simp only [h67,bs,reduceCtorEq] at H66;clear h67;refine cA H66 ?_;intro w77 H78;clear H66;go_wp2_with fail;refine (eA H78 (by simp)).mono ?_;rintro e wz ⟨rfl,HA⟩;clear H78;go_wp2_with fail;go_ret;exact HA.out
 | false =>
  have d10:(E.word (n4:Nat)==[40])=false:=h9;simp only [h9,bs,reduceCtorEq] at H8;clear h9;refine cA H8 ?_;intro w79 H80;clear H8;go_wp2_with fail;refine lG H80 (fun _ _ h=>⟨rfl,h⟩) ?_;intro q83 t84 n82 w81 H85;clear H80;go_wp2_with fail;refine IA H85 0 ?_;intro q87 w86 H88;clear H85;go_wp2_with fail;cases h89:E.is n82 [91] with
  | true =>
   have d90:(E.word (n82:Nat)==[91])=true:=h89;simp only [h89,bs,reduceCtorEq] at H88;have HLTh89:=hid (gA h89);have HYh89:=hid h89;clear h89;refine cA H88 ?_;intro w91 H92;clear H88;have H93:=pB H92;clear H92;go_wp2_with fail;refine jA (F:=.tparams) H93 HD (by decide) ⟨rfl,rfl⟩ (fun _ _ h=>⟨rfl,h⟩) ?_;intro q96 t97 n95 w94 H98;clear H93;go_wp2_with fail;refine jA (F:=.signature) H98 HD (by decide) ⟨rfl,rfl⟩ (fun _ _ h=>⟨rfl,h⟩) ?_;intro q101 t102 n100 w99 H103;clear H98;go_wp2_with fail;refine IA H103 0 ?_;intro q105 w104 H106;clear H103;go_wp2_with fail;cases h107:E.is n100 [123] with
   | true =>
    have d108:(E.word (n100:Nat)==[123])=true:=h107;simp only [h107,bs,reduceCtorEq] at H106;have HLTh107:=hid (gA h107);have HYh107:=hid h107;clear h107;refine cA H106 ?_;intro w109 H110;clear H106;have H111:=pB H110;clear H110;go_wp2_with fail;refine jA (F:=.block) H111 HD (by decide) ⟨rfl,rfl⟩ (fun _ _ h=>⟨rfl,h⟩) ?_;intro q114 t115 n113 w112 H116;clear H111;go_wp2_with fail;refine (eA H116 (by simp)).mono ?_;rintro e wz ⟨rfl,HA⟩;clear H116;go_wp2_with fail;go_ret;exact HA.out
   | false =>
    have d108:(E.word (n100:Nat)==[123])=false:=h107;simp only [h107,bs,reduceCtorEq] at H106;clear h107;refine cA H106 ?_;intro w117 H118;clear H106;go_wp2_with fail;refine (eA H118 (by simp)).mono ?_;rintro e wz ⟨rfl,HA⟩;clear H118;go_wp2_with fail;go_ret;exact HA.out
  | false =>
   have d90:(E.word (n82:Nat)==[91])=false:=h89;simp only [h89,bs,reduceCtorEq] at H88;clear h89;refine cA H88 ?_;intro w119 H120;clear H88;go_wp2_with fail;refine jA (F:=.signature) H120 HD (by decide) ⟨rfl,rfl⟩ (fun _ _ h=>⟨rfl,h⟩) ?_;intro q123 t124 n122 w121 H125;clear H120;go_wp2_with fail;refine IA H125 0 ?_;intro q127 w126 H128;clear H125;go_wp2_with fail;cases h129:E.is n122 [123] with
   | true =>
    have d130:(E.word (n122:Nat)==[123])=true:=h129;simp only [h129,bs,reduceCtorEq] at H128;have HLTh129:=hid (gA h129);have HYh129:=hid h129;clear h129;refine cA H128 ?_;intro w131 H132;clear H128;have H133:=pB H132;clear H132;go_wp2_with fail;refine jA (F:=.block) H133 HD (by decide) ⟨rfl,rfl⟩ (fun _ _ h=>⟨rfl,h⟩) ?_;intro q136 t137 n135 w134 H138;clear H133;go_wp2_with fail;refine (eA H138 (by simp)).mono ?_;rintro e wz ⟨rfl,HA⟩;clear H138;go_wp2_with fail;go_ret;exact HA.out
   | false =>
    have d130:(E.word (n122:Nat)==[123])=false:=h129;simp only [h129,bs,reduceCtorEq] at H128;clear h129;refine cA H128 ?_;intro w139 H140;clear H128;go_wp2_with fail;refine (eA H140 (by simp)).mono ?_;rintro e wz ⟨rfl,HA⟩;clear H140;go_wp2_with fail;go_ret;exact HA.out
theorem mM (H:aB E S) (h:Rd E c n g w) (hr:NB E.toEnv S n g≠.out) :
  Calls Tryz.prog 146 #[.pointer (some ⟨c,0,none⟩)] w (Ans E c g (NB E.toEnv S n g) w):=by
 have HD:=hid H;clear H;have H0:=Sx.start h hr rfl
 conv at H0=>arg 1;arg 8;unfold NB GO
 try simp only [bs,reduceCtorEq] at H0
 clear h hr;go_enter Tryz.func146,Tryz.ntmps146;go_wp2_with fail;refine yB H0 9 ?_;intro p w1 H2;clear H0;go_wp2_with fail;refine jA (F:=.params) H2 HD (by decide) ⟨rfl,rfl⟩ (fun _ _ h=>⟨rfl,h⟩) ?_;intro q5 t6 n4 w3 H7;clear H2;go_wp2_with fail;refine IA H7 0 ?_;intro q9 w8 H10;clear H7;go_wp2_with fail;cases h11:E.is n4 [40] with
 | true =>
  have d12:(E.word (n4:Nat)==[40])=true:=h11;simp only [h11,bs,reduceCtorEq] at H10;have HLTh11:=hid (gA h11);have HYh11:=hid h11;clear h11;refine cA H10 ?_;intro w13 H14;clear H10;have H15:=pB H14;clear H14;go_wp2_with fail;refine jA (F:=.params) H15 HD (by decide) ⟨rfl,rfl⟩ (fun _ _ h=>⟨rfl,h⟩) ?_;intro q18 t19 n17 w16 H20;clear H15;go_wp2_with fail;refine (eA H20 (by simp)).mono ?_;rintro e wz ⟨rfl,HA⟩;clear H20;go_wp2_with fail;go_ret;exact HA.out
 | false =>
  have d12:(E.word (n4:Nat)==[40])=false:=h11;simp only [h11,bs,reduceCtorEq] at H10;clear h11;cases h21:E.is n4 [91] with
  | true =>
   have d22:(E.word (n4:Nat)==[91])=true:=h21;simp only [h21,bs,reduceCtorEq] at H10;have HLTh21:=hid (gA h21);have HYh21:=hid h21;clear h21;refine cA H10 ?_;intro w23 H24;clear H10;have H25:=pB H24;clear H24;go_wp2_with fail;refine jA (F:=.typ) H25 HD (by decide) ⟨rfl,rfl⟩ (fun _ _ h=>⟨rfl,h⟩) ?_;intro q28 t29 n27 w26 H30;clear H25;go_wp2_with fail;refine (eA H30 (by simp)).mono ?_;rintro e wz ⟨rfl,HA⟩;clear H30;go_wp2_with fail;go_ret;exact HA.out
  | false =>
   have d22:(E.word (n4:Nat)==[91])=false:=h21;simp only [h21,bs,reduceCtorEq] at H10;clear h21;cases h31:E.is n4 [42] with
   | true =>
    have d32:(E.word (n4:Nat)==[42])=true:=h31;simp only [h31,bs,reduceCtorEq] at H10;have HLTh31:=hid (gA h31);have HYh31:=hid h31;clear h31;refine cA H10 ?_;intro w33 H34;clear H10;have H35:=pB H34;clear H34;go_wp2_with fail;refine jA (F:=.typ) H35 HD (by decide) ⟨rfl,rfl⟩ (fun _ _ h=>⟨rfl,h⟩) ?_;intro q38 t39 n37 w36 H40;clear H35;go_wp2_with fail;refine (eA H40 (by simp)).mono ?_;rintro e wz ⟨rfl,HA⟩;clear H40;go_wp2_with fail;go_ret;exact HA.out
   | false =>
    have d32:(E.word (n4:Nat)==[42])=false:=h31;simp only [h31,bs,reduceCtorEq] at H10;clear h31;cases h41:E.is n4 [115,116,114,117,99,116] with
    | true =>
     have d42:(E.word (n4:Nat)==[115,116,114,117,99,116])=true:=h41;simp only [h41,bs,reduceCtorEq] at H10;have HLTh41:=hid (gA h41);have HYh41:=hid h41;clear h41;refine cA H10 ?_;intro w43 H44;clear H10;have H45:=pB H44;clear H44;go_wp2_with fail;refine jA (F:=.typ) H45 HD (by decide) ⟨rfl,rfl⟩ (fun _ _ h=>⟨rfl,h⟩) ?_;intro q48 t49 n47 w46 H50;clear H45;go_wp2_with fail;refine (eA H50 (by simp)).mono ?_;rintro e wz ⟨rfl,HA⟩;clear H50;go_wp2_with fail;go_ret;exact HA.out
    | false =>
     have d42:(E.word (n4:Nat)==[115,116,114,117,99,116])=false:=h41;simp only [h41,bs,reduceCtorEq] at H10;clear h41;cases h51:E.is n4 [109,97,112] with
     | true =>
      have d52:(E.word (n4:Nat)==[109,97,112])=true:=h51;simp only [h51,bs,reduceCtorEq] at H10;have HLTh51:=hid (gA h51);have HYh51:=hid h51;clear h51;refine cA H10 ?_;intro w53 H54;clear H10;have H55:=pB H54;clear H54;go_wp2_with fail;refine jA (F:=.typ) H55 HD (by decide) ⟨rfl,rfl⟩ (fun _ _ h=>⟨rfl,h⟩) ?_;intro q58 t59 n57 w56 H60;clear H55;go_wp2_with fail;refine (eA H60 (by simp)).mono ?_;rintro e wz ⟨rfl,HA⟩;clear H60;go_wp2_with fail;go_ret;exact HA.out
     | false =>
      have d52:(E.word (n4:Nat)==[109,97,112])=false:=h51;simp only [h51,bs,reduceCtorEq] at H10;clear h51;cases h61:E.is n4 [99,104,97,110] with
      | true =>
       have d62:(E.word (n4:Nat)==[99,104,97,110])=true:=h61;simp only [h61,bs,reduceCtorEq] at H10;have HLTh61:=hid (gA h61);have HYh61:=hid h61;clear h61;refine cA H10 ?_;intro w63 H64;clear H10;have H65:=pB H64;clear H64;go_wp2_with fail;refine jA (F:=.typ) H65 HD (by decide) ⟨rfl,rfl⟩ (fun _ _ h=>⟨rfl,h⟩) ?_;intro q68 t69 n67 w66 H70;clear H65;go_wp2_with fail;refine (eA H70 (by simp)).mono ?_;rintro e wz ⟨rfl,HA⟩;clear H70;go_wp2_with fail;go_ret;exact HA.out
      | false =>
       have d62:(E.word (n4:Nat)==[99,104,97,110])=false:=h61;simp only [h61,bs,reduceCtorEq] at H10;clear h61;cases h71:E.is n4 [105,110,116,101,114,102,97,99,101] with
       | true =>
        have d72:(E.word (n4:Nat)==[105,110,116,101,114,102,97,99,101])=true:=h71;simp only [h71,bs,reduceCtorEq] at H10;have HLTh71:=hid (gA h71);have HYh71:=hid h71;clear h71;refine cA H10 ?_;intro w73 H74;clear H10;have H75:=pB H74;clear H74;go_wp2_with fail;refine jA (F:=.typ) H75 HD (by decide) ⟨rfl,rfl⟩ (fun _ _ h=>⟨rfl,h⟩) ?_;intro q78 t79 n77 w76 H80;clear H75;go_wp2_with fail;refine (eA H80 (by simp)).mono ?_;rintro e wz ⟨rfl,HA⟩;clear H80;go_wp2_with fail;go_ret;exact HA.out
       | false =>
        have d72:(E.word (n4:Nat)==[105,110,116,101,114,102,97,99,101])=false:=h71;simp only [h71,bs,reduceCtorEq] at H10;clear h71;cases h81:E.is n4 [102,117,110,99] with
        | true =>
         have d82:(E.word (n4:Nat)==[102,117,110,99])=true:=h81;simp only [h81,bs,reduceCtorEq] at H10;have HLTh81:=hid (gA h81);have HYh81:=hid h81;clear h81;refine cA H10 ?_;intro w83 H84;clear H10;have H85:=pB H84;clear H84;go_wp2_with fail;refine jA (F:=.typ) H85 HD (by decide) ⟨rfl,rfl⟩ (fun _ _ h=>⟨rfl,h⟩) ?_;intro q88 t89 n87 w86 H90;clear H85;go_wp2_with fail;refine (eA H90 (by simp)).mono ?_;rintro e wz ⟨rfl,HA⟩;clear H90;go_wp2_with fail;go_ret;exact HA.out
        | false =>
         have d82:(E.word (n4:Nat)==[102,117,110,99])=false:=h81;simp only [h81,bs,reduceCtorEq] at H10;clear h81;cases h91:E.is n4 [60,45] with
         | true =>
          have d92:(E.word (n4:Nat)==[60,45])=true:=h91;simp only [h91,bs,reduceCtorEq] at H10;have HLTh91:=hid (gA h91);have HYh91:=hid h91;clear h91;refine cA H10 ?_;intro w93 H94;clear H10;have H95:=pB H94;clear H94;go_wp2_with fail;refine jA (F:=.typ) H95 HD (by decide) ⟨rfl,rfl⟩ (fun _ _ h=>⟨rfl,h⟩) ?_;intro q98 t99 n97 w96 H100;clear H95;go_wp2_with fail;refine (eA H100 (by simp)).mono ?_;rintro e wz ⟨rfl,HA⟩;clear H100;go_wp2_with fail;go_ret;exact HA.out
         | false =>
          have d92:(E.word (n4:Nat)==[60,45])=false:=h91;simp only [h91,bs,reduceCtorEq] at H10;clear h91;refine cA H10 ?_;intro w101 H102;clear H10;obtain⟨_,_,_,hat104,_⟩:=H102.out.rd.cells;have hsm105:((n4:Nat):Int)≤1099511627776:=by have:=H102.out.rd.at_;have:=H102.out.rd.lie.small;omega
          go_wp2_with fail;cases h103:E.named ((n4:Nat):Int) with
          | true =>
           simp only [h103,bs,reduceCtorEq] at H102;refine RB H102 _ true h103 ?_;intro w106 H107;clear H102 hat104 hsm105;have HYh103:=hid h103;clear h103;have H108:=pB H107;clear H107;go_wp2_with fail;refine jA (F:=.typ) H108 HD (by decide) ⟨rfl,rfl⟩ (fun _ _ h=>⟨rfl,h⟩) ?_;intro q111 t112 n110 w109 H113;clear H108;go_wp2_with fail;refine (eA H113 (by simp)).mono ?_;rintro e wz ⟨rfl,HA⟩;clear H113;go_wp2_with fail;go_ret;exact HA.out
          | false =>
           simp only [h103,bs,reduceCtorEq] at H102;refine RB H102 _ false h103 ?_;intro w114 H115;clear H102 hat104 hsm105;clear h103;go_wp2_with fail;refine (eA H115 (by simp)).mono ?_;rintro e wz ⟨rfl,HA⟩;clear H115;go_wp2_with fail;go_ret;exact HA.out
theorem qM (H:aB E S) (h:Rd E c n g w) (hr:rC E.toEnv S n g≠.out) :
  Calls Tryz.prog 159 #[.pointer (some ⟨c,0,none⟩)] w (Ans E c g (rC E.toEnv S n g) w):=by
 have HD:=hid H;clear H;have H0:=Sx.start h hr rfl
 conv at H0=>arg 1;arg 8;unfold rC PB
 try simp only [bs,reduceCtorEq] at H0
 clear h hr;go_enter Tryz.func159,Tryz.ntmps159;go_wp2_with fail;refine yB H0 7 ?_;intro p w1 H2;clear H0;go_wp2_with fail;refine lG H2 (fun _ _ h=>⟨rfl,h⟩) ?_;intro q5 t6 n4 w3 H7;clear H2;go_wp2_with fail;refine IA H7 0 ?_;intro q9 w8 H10;clear H7;go_wp2_with fail;cases h11:generic E.toEnv n4 with
 | true =>
  simp only [h11,bs,reduceCtorEq] at H10;refine kB H10 (by have hq:=jK H10.out.rd;rw [h11] at hq;exact hq) ?_;intro w12 H13;clear H10;have HYh11:=hid h11;clear h11;have H14:=pB H13;clear H13;go_wp2_with fail;refine jA (F:=.tparams) H14 HD (by decide) ⟨rfl,rfl⟩ (fun _ _ h=>⟨rfl,h⟩) ?_;intro q17 t18 n16 w15 H19;clear H14;go_wp2_with fail;cases h20:E.is n16 [61] with
  | true =>
   have d21:(E.word (n16:Nat)==[61])=true:=h20;simp only [h20,bs,reduceCtorEq] at H19;have HLTh20:=hid (gA h20);have HYh20:=hid h20;clear h20;refine cA H19 ?_;intro w22 H23;clear H19;obtain⟨_,_,_,hat25,_⟩:=H23.out.rd.cells;have hsm26:((n16:Nat):Int)≤1099511627776:=by have:=H23.out.rd.at_;have:=H23.out.rd.lie.small;omega
   obtain⟨_,hk28,hf29,_,_⟩:=H23.out.ex.opn.blk.cells;have hfz27:=H23.out.ex.opn.blk.free 1;have H24:=oD H23 ((n16:Nat):Int);clear H23;obtain⟨_,_,_,hat32,_⟩:=H24.out.rd.cells;have hsm33:((n16:Nat):Int)≤1099511627776:=by have:=H24.out.rd.at_;have:=H24.out.rd.lie.small;omega
   have hfz31:=H24.out.rd.free 3;have H30:=ZA H24 HLTh20;clear H24;obtain⟨n34,hm⟩:∃ m,m=n16+1:=⟨_,rfl⟩;simp only [← hm] at H30;have HMn34:=hid hm;clear hm;go_wp2_with fail;generalize ((w22.setCell ⟨p,1,none⟩ (.int .i64 ((n16:Nat):Int))).setCell ⟨c,3,none⟩ (.int .i64 (((n16:Nat):Int)+1)))=w35 at *;clear hat25 hsm26 hfz27 hk28 hf29 hat32 hsm33 hfz31
   try simp only [show (((n16:Nat):Int)+1)=((n34:Nat):Int) from by have:=HMn34.out;omega] at H30
   refine jA (F:=.typ) H30 HD (by decide) ⟨rfl,rfl⟩ (fun _ _ h=>⟨rfl,h⟩) ?_;intro q38 t39 n37 w36 H40;clear H30;go_wp2_with fail;refine (eA H40 (by simp)).mono ?_;rintro e wz ⟨rfl,HA⟩;clear H40;go_wp2_with fail;go_ret;exact HA.out
  | false =>
   have d21:(E.word (n16:Nat)==[61])=false:=h20;simp only [h20,bs,reduceCtorEq] at H19;clear h20;refine cA H19 ?_;intro w41 H42;clear H19;go_wp2_with fail;refine jA (F:=.typ) H42 HD (by decide) ⟨rfl,rfl⟩ (fun _ _ h=>⟨rfl,h⟩) ?_;intro q45 t46 n44 w43 H47;clear H42;go_wp2_with fail;refine (eA H47 (by simp)).mono ?_;rintro e wz ⟨rfl,HA⟩;clear H47;go_wp2_with fail;go_ret;exact HA.out
 | false =>
  simp only [h11,bs,reduceCtorEq] at H10;refine kB H10 (by have hq:=jK H10.out.rd;rw [h11] at hq;exact hq) ?_;intro w48 H49;clear H10;clear h11;go_wp2_with fail;cases h50:E.is n4 [61] with
  | true =>
   have d51:(E.word (n4:Nat)==[61])=true:=h50;simp only [h50,bs,reduceCtorEq] at H49;have HLTh50:=hid (gA h50);have HYh50:=hid h50;clear h50;refine cA H49 ?_;intro w52 H53;clear H49;obtain⟨_,_,_,hat55,_⟩:=H53.out.rd.cells;have hsm56:((n4:Nat):Int)≤1099511627776:=by have:=H53.out.rd.at_;have:=H53.out.rd.lie.small;omega
   obtain⟨_,hk58,hf59,_,_⟩:=H53.out.ex.opn.blk.cells;have hfz57:=H53.out.ex.opn.blk.free 1;have H54:=oD H53 ((n4:Nat):Int);clear H53;obtain⟨_,_,_,hat62,_⟩:=H54.out.rd.cells;have hsm63:((n4:Nat):Int)≤1099511627776:=by have:=H54.out.rd.at_;have:=H54.out.rd.lie.small;omega
   have hfz61:=H54.out.rd.free 3;have H60:=ZA H54 HLTh50;clear H54;obtain⟨n64,hm⟩:∃ m,m=n4+1:=⟨_,rfl⟩;simp only [← hm] at H60;have HMn64:=hid hm;clear hm;go_wp2_with fail;generalize ((w52.setCell ⟨p,1,none⟩ (.int .i64 ((n4:Nat):Int))).setCell ⟨c,3,none⟩ (.int .i64 (((n4:Nat):Int)+1)))=w65 at *;clear hat55 hsm56 hfz57 hk58 hf59 hat62 hsm63 hfz61
   try simp only [show (((n4:Nat):Int)+1)=((n64:Nat):Int) from by have:=HMn64.out;omega] at H60
   refine jA (F:=.typ) H60 HD (by decide) ⟨rfl,rfl⟩ (fun _ _ h=>⟨rfl,h⟩) ?_;intro q68 t69 n67 w66 H70;clear H60;go_wp2_with fail;refine (eA H70 (by simp)).mono ?_;rintro e wz ⟨rfl,HA⟩;clear H70;go_wp2_with fail;go_ret;exact HA.out
  | false =>
   have d51:(E.word (n4:Nat)==[61])=false:=h50;simp only [h50,bs,reduceCtorEq] at H49;clear h50;refine cA H49 ?_;intro w71 H72;clear H49;go_wp2_with fail;refine jA (F:=.typ) H72 HD (by decide) ⟨rfl,rfl⟩ (fun _ _ h=>⟨rfl,h⟩) ?_;intro q75 t76 n74 w73 H77;clear H72;go_wp2_with fail;refine (eA H77 (by simp)).mono ?_;rintro e wz ⟨rfl,HA⟩;clear H77;go_wp2_with fail;go_ret;exact HA.out
end
section
open Go.RowKit
variable {E:Ev}{S:AB}{c n:Nat}{g:Bool}{w:World}
theorem qQ (H:aB E S) (h:Rd E c n g w) (hr:FE E.toEnv S n g≠.out) :
  Calls Tryz.prog 151 #[.pointer (some ⟨c,0,none⟩)] w (Ans E c g (FE E.toEnv S n g) w):=by
 have HD:=hid H;clear H;have H0:=Sx.start h hr rfl
 conv at H0=>arg 1;arg 8;unfold FE
 try simp only [bs,reduceCtorEq] at H0
 clear h hr;go_enter Tryz.func151,Tryz.ntmps151;go_wp2_with fail;refine yB H0 36 ?_;intro p w1 H2;clear H0;go_wp2_with fail;cases h3:E.is n [60,45] with
 | true =>
  have d4:(E.word (n:Nat)==[60,45])=true:=h3;simp only [h3,bs,reduceCtorEq] at H2;have HLTh3:=hid (gA h3);have HYh3:=hid h3;clear h3;refine cA H2 ?_;intro w5 H6;clear H2;obtain⟨_,_,_,hat8,_⟩:=H6.out.rd.cells;have hsm9:((n:Nat):Int)≤1099511627776:=by have:=H6.out.rd.at_;have:=H6.out.rd.lie.small;omega
  go_wp2_with fail;cases h7:E.is (n+1) [99,104,97,110] with
  | true =>
   simp only [h7,bs,reduceCtorEq] at H6;have d11:(E.word (((n:Nat):Int)+1)==[99,104,97,110])=true:=by rw [show (((n:Nat):Int)+1)=((n+1:Nat):Int) from by omega];exact h7
   refine OA H6 _ ?_;intro w10 H12;clear H6 hat8 hsm9;have HLTh7:Hid (n < E.l.length):=hid (by have:=gA h7;omega);have HYh7:=hid h7;clear h7;go_wp2_with fail;refine aE (F:=.primary) H12 HD (by decide) ⟨rfl,rfl⟩ (fun _ _ h=>⟨rfl,h⟩) ?_;intro q wz HA;clear H12;go_wp2_with fail;go_ret;exact HA.out
  | false =>
   simp only [h7,bs,reduceCtorEq] at H6;have d14:(E.word (((n:Nat):Int)+1)==[99,104,97,110])=false:=by rw [show (((n:Nat):Int)+1)=((n+1:Nat):Int) from by omega];exact h7
   refine OA H6 _ ?_;intro w13 H15;clear H6 hat8 hsm9;clear h7;obtain⟨_,_,_,hat17,_⟩:=H15.out.rd.cells;have hsm18:((n:Nat):Int)≤1099511627776:=by have:=H15.out.rd.at_;have:=H15.out.rd.lie.small;omega
   obtain⟨_,hk20,hf21,_,_⟩:=H15.out.ex.opn.blk.cells;have hfz19:=H15.out.ex.opn.blk.free 1;have H16:=oD H15 ((n:Nat):Int);clear H15;obtain⟨_,_,_,hat24,_⟩:=H16.out.rd.cells;have hsm25:((n:Nat):Int)≤1099511627776:=by have:=H16.out.rd.at_;have:=H16.out.rd.lie.small;omega
   have hfz23:=H16.out.rd.free 3;have H22:=ZA H16 HLTh3;clear H16;obtain⟨n26,hm⟩:∃ m,m=n+1:=⟨_,rfl⟩;simp only [← hm] at H22;have HMn26:=hid hm;clear hm;go_wp2_with fail;generalize ((w13.setCell ⟨p,1,none⟩ (.int .i64 ((n:Nat):Int))).setCell ⟨c,3,none⟩ (.int .i64 (((n:Nat):Int)+1)))=w27 at *;clear hat17 hsm18 hfz19 hk20 hf21 hat24 hsm25 hfz23
   try simp only [show (((n:Nat):Int)+1)=((n26:Nat):Int) from by have:=HMn26.out;omega] at H22
   refine jA (F:=.unary) H22 HD (by decide) ⟨rfl,rfl⟩ (fun _ _ h=>⟨rfl,h⟩) ?_;intro q30 t31 n29 w28 H32;clear H22;go_wp2_with fail;refine (eA H32 (by simp)).mono ?_;rintro e wz ⟨rfl,HA⟩;clear H32;go_wp2_with fail;go_ret;exact HA.out
 | false =>
  have d4:(E.word (n:Nat)==[60,45])=false:=h3;simp only [h3,bs,reduceCtorEq] at H2;clear h3;cases h33:E.is n [43] with
  | true =>
   have d34:(E.word (n:Nat)==[43])=true:=h33;simp only [h33,bs,reduceCtorEq] at H2;have HLTh33:=hid (gA h33);have HYh33:=hid h33;clear h33;refine cA H2 ?_;intro w35 H36;clear H2;obtain⟨_,_,_,hat38,_⟩:=H36.out.rd.cells;have hsm39:((n:Nat):Int)≤1099511627776:=by have:=H36.out.rd.at_;have:=H36.out.rd.lie.small;omega
   obtain⟨_,hk41,hf42,_,_⟩:=H36.out.ex.opn.blk.cells;have hfz40:=H36.out.ex.opn.blk.free 1;have H37:=oD H36 ((n:Nat):Int);clear H36;obtain⟨_,_,_,hat45,_⟩:=H37.out.rd.cells;have hsm46:((n:Nat):Int)≤1099511627776:=by have:=H37.out.rd.at_;have:=H37.out.rd.lie.small;omega
   have hfz44:=H37.out.rd.free 3;have H43:=ZA H37 HLTh33;clear H37;obtain⟨n47,hm⟩:∃ m,m=n+1:=⟨_,rfl⟩;simp only [← hm] at H43;have HMn47:=hid hm;clear hm;go_wp2_with fail;generalize ((w35.setCell ⟨p,1,none⟩ (.int .i64 ((n:Nat):Int))).setCell ⟨c,3,none⟩ (.int .i64 (((n:Nat):Int)+1)))=w48 at *;clear hat38 hsm39 hfz40 hk41 hf42 hat45 hsm46 hfz44
   try simp only [show (((n:Nat):Int)+1)=((n47:Nat):Int) from by have:=HMn47.out;omega] at H43
   refine jA (F:=.unary) H43 HD (by decide) ⟨rfl,rfl⟩ (fun _ _ h=>⟨rfl,h⟩) ?_;intro q51 t52 n50 w49 H53;clear H43;go_wp2_with fail;refine (eA H53 (by simp)).mono ?_;rintro e wz ⟨rfl,HA⟩;clear H53;go_wp2_with fail;go_ret;exact HA.out
  | false =>
   have d34:(E.word (n:Nat)==[43])=false:=h33;simp only [h33,bs,reduceCtorEq] at H2;clear h33;cases h54:E.is n [45] with
   | true =>
    have d55:(E.word (n:Nat)==[45])=true:=h54;simp only [h54,bs,reduceCtorEq] at H2;have HLTh54:=hid (gA h54);have HYh54:=hid h54;clear h54;refine cA H2 ?_;intro w56 H57;clear H2;obtain⟨_,_,_,hat59,_⟩:=H57.out.rd.cells;have hsm60:((n:Nat):Int)≤1099511627776:=by have:=H57.out.rd.at_;have:=H57.out.rd.lie.small;omega
    obtain⟨_,hk62,hf63,_,_⟩:=H57.out.ex.opn.blk.cells;have hfz61:=H57.out.ex.opn.blk.free 1;have H58:=oD H57 ((n:Nat):Int);clear H57;obtain⟨_,_,_,hat66,_⟩:=H58.out.rd.cells;have hsm67:((n:Nat):Int)≤1099511627776:=by have:=H58.out.rd.at_;have:=H58.out.rd.lie.small;omega
    have hfz65:=H58.out.rd.free 3;have H64:=ZA H58 HLTh54;clear H58;obtain⟨n68,hm⟩:∃ m,m=n+1:=⟨_,rfl⟩;simp only [← hm] at H64;have HMn68:=hid hm;clear hm;go_wp2_with fail;generalize ((w56.setCell ⟨p,1,none⟩ (.int .i64 ((n:Nat):Int))).setCell ⟨c,3,none⟩ (.int .i64 (((n:Nat):Int)+1)))=w69 at *;clear hat59 hsm60 hfz61 hk62 hf63 hat66 hsm67 hfz65
    try simp only [show (((n:Nat):Int)+1)=((n68:Nat):Int) from by have:=HMn68.out;omega] at H64
    refine jA (F:=.unary) H64 HD (by decide) ⟨rfl,rfl⟩ (fun _ _ h=>⟨rfl,h⟩) ?_;intro q72 t73 n71 w70 H74;clear H64;go_wp2_with fail;refine (eA H74 (by simp)).mono ?_;rintro e wz ⟨rfl,HA⟩;clear H74;go_wp2_with fail;go_ret;exact HA.out
   | false =>
    have d55:(E.word (n:Nat)==[45])=false:=h54;simp only [h54,bs,reduceCtorEq] at H2;clear h54;cases h75:E.is n [33] with
    | true =>
     have d76:(E.word (n:Nat)==[33])=true:=h75;simp only [h75,bs,reduceCtorEq] at H2;have HLTh75:=hid (gA h75);have HYh75:=hid h75;clear h75;refine cA H2 ?_;intro w77 H78;clear H2;obtain⟨_,_,_,hat80,_⟩:=H78.out.rd.cells;have hsm81:((n:Nat):Int)≤1099511627776:=by have:=H78.out.rd.at_;have:=H78.out.rd.lie.small;omega
     obtain⟨_,hk83,hf84,_,_⟩:=H78.out.ex.opn.blk.cells;have hfz82:=H78.out.ex.opn.blk.free 1;have H79:=oD H78 ((n:Nat):Int);clear H78;obtain⟨_,_,_,hat87,_⟩:=H79.out.rd.cells;have hsm88:((n:Nat):Int)≤1099511627776:=by have:=H79.out.rd.at_;have:=H79.out.rd.lie.small;omega
     have hfz86:=H79.out.rd.free 3;have H85:=ZA H79 HLTh75;clear H79;obtain⟨n89,hm⟩:∃ m,m=n+1:=⟨_,rfl⟩;simp only [← hm] at H85;have HMn89:=hid hm;clear hm;go_wp2_with fail;generalize ((w77.setCell ⟨p,1,none⟩ (.int .i64 ((n:Nat):Int))).setCell ⟨c,3,none⟩ (.int .i64 (((n:Nat):Int)+1)))=w90 at *;clear hat80 hsm81 hfz82 hk83 hf84 hat87 hsm88 hfz86
     try simp only [show (((n:Nat):Int)+1)=((n89:Nat):Int) from by have:=HMn89.out;omega] at H85
     refine jA (F:=.unary) H85 HD (by decide) ⟨rfl,rfl⟩ (fun _ _ h=>⟨rfl,h⟩) ?_;intro q93 t94 n92 w91 H95;clear H85;go_wp2_with fail;refine (eA H95 (by simp)).mono ?_;rintro e wz ⟨rfl,HA⟩;clear H95;go_wp2_with fail;go_ret;exact HA.out
    | false =>
     have d76:(E.word (n:Nat)==[33])=false:=h75;simp only [h75,bs,reduceCtorEq] at H2;clear h75;cases h96:E.is n [94] with
     | true =>
      have d97:(E.word (n:Nat)==[94])=true:=h96;simp only [h96,bs,reduceCtorEq] at H2;have HLTh96:=hid (gA h96);have HYh96:=hid h96;clear h96;refine cA H2 ?_;intro w98 H99;clear H2;obtain⟨_,_,_,hat101,_⟩:=H99.out.rd.cells;have hsm102:((n:Nat):Int)≤1099511627776:=by have:=H99.out.rd.at_;have:=H99.out.rd.lie.small;omega
      obtain⟨_,hk104,hf105,_,_⟩:=H99.out.ex.opn.blk.cells;have hfz103:=H99.out.ex.opn.blk.free 1;have H100:=oD H99 ((n:Nat):Int);clear H99;obtain⟨_,_,_,hat108,_⟩:=H100.out.rd.cells;have hsm109:((n:Nat):Int)≤1099511627776:=by have:=H100.out.rd.at_;have:=H100.out.rd.lie.small;omega
      have hfz107:=H100.out.rd.free 3;have H106:=ZA H100 HLTh96;clear H100;obtain⟨n110,hm⟩:∃ m,m=n+1:=⟨_,rfl⟩;simp only [← hm] at H106;have HMn110:=hid hm;clear hm;go_wp2_with fail;generalize ((w98.setCell ⟨p,1,none⟩ (.int .i64 ((n:Nat):Int))).setCell ⟨c,3,none⟩ (.int .i64 (((n:Nat):Int)+1)))=w111 at *;clear hat101 hsm102 hfz103 hk104 hf105 hat108 hsm109 hfz107
      try simp only [show (((n:Nat):Int)+1)=((n110:Nat):Int) from by have:=HMn110.out;omega] at H106
      refine jA (F:=.unary) H106 HD (by decide) ⟨rfl,rfl⟩ (fun _ _ h=>⟨rfl,h⟩) ?_;intro q114 t115 n113 w112 H116;clear H106;go_wp2_with fail;refine (eA H116 (by simp)).mono ?_;rintro e wz ⟨rfl,HA⟩;clear H116;go_wp2_with fail;go_ret;exact HA.out
     | false =>
      have d97:(E.word (n:Nat)==[94])=false:=h96;simp only [h96,bs,reduceCtorEq] at H2;clear h96;cases h117:E.is n [38] with
      | true =>
       have d118:(E.word (n:Nat)==[38])=true:=h117;simp only [h117,bs,reduceCtorEq] at H2;have HLTh117:=hid (gA h117);have HYh117:=hid h117;clear h117;refine cA H2 ?_;intro w119 H120;clear H2;obtain⟨_,_,_,hat122,_⟩:=H120.out.rd.cells;have hsm123:((n:Nat):Int)≤1099511627776:=by have:=H120.out.rd.at_;have:=H120.out.rd.lie.small;omega
       obtain⟨_,hk125,hf126,_,_⟩:=H120.out.ex.opn.blk.cells;have hfz124:=H120.out.ex.opn.blk.free 1;have H121:=oD H120 ((n:Nat):Int);clear H120;obtain⟨_,_,_,hat129,_⟩:=H121.out.rd.cells;have hsm130:((n:Nat):Int)≤1099511627776:=by have:=H121.out.rd.at_;have:=H121.out.rd.lie.small;omega
       have hfz128:=H121.out.rd.free 3;have H127:=ZA H121 HLTh117;clear H121;obtain⟨n131,hm⟩:∃ m,m=n+1:=⟨_,rfl⟩;simp only [← hm] at H127;have HMn131:=hid hm;clear hm;go_wp2_with fail;generalize ((w119.setCell ⟨p,1,none⟩ (.int .i64 ((n:Nat):Int))).setCell ⟨c,3,none⟩ (.int .i64 (((n:Nat):Int)+1)))=w132 at *;clear hat122 hsm123 hfz124 hk125 hf126 hat129 hsm130 hfz128
       try simp only [show (((n:Nat):Int)+1)=((n131:Nat):Int) from by have:=HMn131.out;omega] at H127
       refine jA (F:=.unary) H127 HD (by decide) ⟨rfl,rfl⟩ (fun _ _ h=>⟨rfl,h⟩) ?_;intro q135 t136 n134 w133 H137;clear H127;go_wp2_with fail;refine (eA H137 (by simp)).mono ?_;rintro e wz ⟨rfl,HA⟩;clear H137;go_wp2_with fail;go_ret;exact HA.out
      | false =>
       have d118:(E.word (n:Nat)==[38])=false:=h117;simp only [h117,bs,reduceCtorEq] at H2;clear h117;cases h138:E.is n [42] with
       | true =>
        have d139:(E.word (n:Nat)==[42])=true:=h138;simp only [h138,bs,reduceCtorEq] at H2;have HLTh138:=hid (gA h138);have HYh138:=hid h138;clear h138;refine cA H2 ?_;intro w140 H141;clear H2;obtain⟨hk144,_,hf145,_,_⟩:=H141.out.ex.opn.blk.cells;have hfz143:=H141.out.ex.opn.blk.free 0;have H142:Hid (Sx _ _ _ _ _ _ _ _ (w140.setCell ⟨p,0,none⟩ (.int .u8 35))):=dB H141 35;clear H141;obtain⟨_,_,_,hat148,_⟩:=H142.out.rd.cells;have hsm149:((n:Nat):Int)≤1099511627776:=by have:=H142.out.rd.at_;have:=H142.out.rd.lie.small;omega
        have hfz147:=H142.out.rd.free 3;have H146:=ZA H142 HLTh138;clear H142;obtain⟨n150,hm⟩:∃ m,m=n+1:=⟨_,rfl⟩;simp only [← hm] at H146;have HMn150:=hid hm;clear hm;go_wp2_with fail;generalize ((w140.setCell ⟨p,0,none⟩ (.int .u8 35)).setCell ⟨c,3,none⟩ (.int .i64 (((n:Nat):Int)+1)))=w151 at *;clear hfz143 hk144 hf145 hat148 hsm149 hfz147
        try simp only [show (((n:Nat):Int)+1)=((n150:Nat):Int) from by have:=HMn150.out;omega] at H146
        refine jA (F:=.unary) H146 HD (by decide) ⟨rfl,rfl⟩ (fun _ _ h=>⟨rfl,h⟩) ?_;intro q154 t155 n153 w152 H156;clear H146;go_wp2_with fail;refine (eA H156 (by simp)).mono ?_;rintro e wz ⟨rfl,HA⟩;clear H156;go_wp2_with fail;go_ret;exact HA.out
       | false =>
        have d139:(E.word (n:Nat)==[42])=false:=h138;simp only [h138,bs,reduceCtorEq] at H2;clear h138;refine cA H2 ?_;intro w157 H158;clear H2;go_wp2_with fail;refine aE (F:=.primary) H158 HD (by decide) ⟨rfl,rfl⟩ (fun _ _ h=>⟨rfl,h⟩) ?_;intro q wz HA;clear H158;go_wp2_with fail;go_ret;exact HA.out
end
end Go.Proofs.YtfmpphplbdojbaaGreatDoor
