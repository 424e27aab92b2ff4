import Derived.Test.YtfmpphplbdojbaaGreatDoorQAP
namespace Go.Proofs.YtfmpphplbdojbaaGreatDoor
open Lib(hid)
set_option linter.all false
set_option maxHeartbeats 40000000
set_option maxRecDepth 100000
section
open Go.RowKit
variable {E:Ev}{S:AB}{c n:Nat}{g:Bool}{w:World}
variable {k:Nat}
theorem tS (h:Rd E c n g w) (f:FuncId) (hcf:Tryz.prog.funcs[f]?.map (fun f=>(f.name== "runtime.NumGoroutine",f.body.isNone))=some (false,false)) {r:R Tr}
  (H:∀ w1,Rd E c n false w1→Fr [c] w w1→Calls Tryz.prog f #[.pointer (some ⟨c,0,none⟩)] w1 (Ans E c false r w1)) :
  Calls Tryz.prog 102 #[.pointer (some ⟨c,0,none⟩),.func (.func f) #[.pointer (some ⟨c,0,none⟩)] #[]] w (Ans E c g r w) :=
 (GG h f #[.pointer (some ⟨c,0,none⟩)] #[] (fun _=>cF hcf _ _) r (fun _=>True) w (Fr.refl _ _) h.lt (fun w1 hR hF=>(H w1 hR hF).mono (fun e w' hA=>⟨fun _ _=>trivial,hA.behind hF⟩))).mono (fun e w' hA=>hA.2)
theorem OQ (H:∀ j,j≤k→aB E (kA E.toEnv j)) (hkk:k≤1099511627776) (h:Rd E c n g w) (hn:n < E.l.length) (hr:CE E.toEnv (kA E.toEnv k) n g≠.out) :
  Calls Tryz.prog 110 #[.pointer (some ⟨c,0,none⟩)] w (Ans E c g (CE E.toEnv (kA E.toEnv k) n g) w):=by
 have HLT:=hid hn;clear hn;have HA:=hid H;have HD:=hid (H k (Nat.le_refl _));clear H;have H0:=Sx.start h hr rfl
 conv at H0=>arg 1;arg 8;unfold CE EN
 try simp only [bs,reduceCtorEq] at H0
 clear h hr;go_enter Tryz.func110,Tryz.ntmps110;go_wp2_with fail;refine yB H0 3 ?_;intro p w1 H2;clear H0;obtain⟨_,_,_,hat4,_⟩:=H2.out.rd.cells;have hsm5:((n:Nat):Int)≤1099511627776:=by have:=H2.out.rd.at_;have:=H2.out.rd.lie.small;omega
 obtain⟨_,hk7,hf8,_,_⟩:=H2.out.ex.opn.blk.cells;have hfz6:=H2.out.ex.opn.blk.free 1;have H3:=oD H2 ((n:Nat):Int);clear H2;go_wp2_with fail;generalize (w1.setCell ⟨p,1,none⟩ (.int .i64 ((n:Nat):Int)))=w9 at *;clear hat4 hsm5 hfz6 hk7 hf8;cases h10:E.is n [105,109,112,111,114,116] with
 | true =>
  have d11:(E.word (n:Nat)==[105,109,112,111,114,116])=true:=h10;simp only [h10,bs,reduceCtorEq] at H3;have HLTh10:=hid (gA h10);have HYh10:=hid h10;clear h10;refine cA H3 ?_;intro w12 H13;clear H3;obtain⟨_,_,_,hat16,_⟩:=H13.out.rd.cells;have hsm17:((n:Nat):Int)≤1099511627776:=by have:=H13.out.rd.at_;have:=H13.out.rd.lie.small;omega
  have hfz15:=H13.out.rd.free 3;have H14:=ZA H13 HLTh10;clear H13;obtain⟨n18,hm⟩:∃ m,m=n+1:=⟨_,rfl⟩;simp only [← hm] at H14;have HMn18:=hid hm;clear hm;go_wp2_with fail;generalize (w12.setCell ⟨c,3,none⟩ (.int .i64 (((n:Nat):Int)+1)))=w19 at *;clear hat16 hsm17 hfz15
  try simp only [show (((n:Nat):Int)+1)=((n18:Nat):Int) from by have:=HMn18.out;omega] at H14
  cases h20:E.is n18 [40] with
  | true =>
   have d21:(E.word (n18:Nat)==[40])=true:=h20;simp only [h20,bs,reduceCtorEq] at H14;have HLTh20:=hid (gA h20);have HYh20:=hid h20;clear h20;refine cA H14 ?_;intro w22 H23;clear H14;obtain⟨hk26,_,hf27,_,_⟩:=H23.out.ex.opn.blk.cells;have hfz25:=H23.out.ex.opn.blk.free 0;have H24:Hid (Sx _ _ _ _ _ _ _ _ (w22.setCell ⟨p,0,none⟩ (.int .u8 4))):=dB H23 4;clear H23;go_wp2_with fail;generalize (w22.setCell ⟨p,0,none⟩ (.int .u8 4))=w28 at *;clear hfz25 hk26 hf27;refine xG H24 hkk (El.meth HA.out .importSpec (by decide) (by simp) (by kernel_rfl)) (fun _ _ h=>⟨rfl,h⟩) ?_;intro v31 r32 t33 n30 w29 hl H34;have HLH34:=hid (Nat.le_trans hl hkk);clear hl;go_wp2_with fail;refine FA H34 (fun _ _ h=>⟨rfl,h⟩) ?_;intro n36 w35 H37;clear H34;go_wp2_with fail;refine (NG H24 H37 (by have:=HLH34.out;simp;omega)).mono ?_;rintro e wz ⟨rfl,HA⟩;clear H37;go_wp2_with fail;go_ret;exact HA.out
  | false =>
   have d21:(E.word (n18:Nat)==[40])=false:=h20;simp only [h20,bs,reduceCtorEq] at H14;clear h20;refine cA H14 ?_;intro w38 H39;clear H14;go_wp2_with fail;refine jA (F:=.one .importSpec) H39 HD (by decide) ⟨rfl,rfl⟩ (fun _ _ h=>⟨rfl,h⟩) ?_;intro q42 t43 n41 w40 H44;clear H39;go_wp2_with fail;refine (eA H44 (by simp)).mono ?_;rintro e wz ⟨rfl,HA⟩;clear H44;go_wp2_with fail;go_ret;exact HA.out
 | false =>
  have d11:(E.word (n:Nat)==[105,109,112,111,114,116])=false:=h10;simp only [h10,bs,reduceCtorEq] at H3;clear h10;cases h45:E.is n [99,111,110,115,116] with
  | true =>
   have d46:(E.word (n:Nat)==[99,111,110,115,116])=true:=h45;simp only [h45,bs,reduceCtorEq] at H3;have HLTh45:=hid (gA h45);have HYh45:=hid h45;clear h45;refine cA H3 ?_;intro w47 H48;clear H3;obtain⟨_,_,_,hat51,_⟩:=H48.out.rd.cells;have hsm52:((n:Nat):Int)≤1099511627776:=by have:=H48.out.rd.at_;have:=H48.out.rd.lie.small;omega
   have hfz50:=H48.out.rd.free 3;have H49:=ZA H48 HLTh45;clear H48;obtain⟨n53,hm⟩:∃ m,m=n+1:=⟨_,rfl⟩;simp only [← hm] at H49;have HMn53:=hid hm;clear hm;go_wp2_with fail;generalize (w47.setCell ⟨c,3,none⟩ (.int .i64 (((n:Nat):Int)+1)))=w54 at *;clear hat51 hsm52 hfz50
   try simp only [show (((n:Nat):Int)+1)=((n53:Nat):Int) from by have:=HMn53.out;omega] at H49
   cases h55:E.is n53 [40] with
   | true =>
    have d56:(E.word (n53:Nat)==[40])=true:=h55;simp only [h55,bs,reduceCtorEq] at H49;have HLTh55:=hid (gA h55);have HYh55:=hid h55;clear h55;refine cA H49 ?_;intro w57 H58;clear H49;obtain⟨hk61,_,hf62,_,_⟩:=H58.out.ex.opn.blk.cells;have hfz60:=H58.out.ex.opn.blk.free 0;have H59:Hid (Sx _ _ _ _ _ _ _ _ (w57.setCell ⟨p,0,none⟩ (.int .u8 4))):=dB H58 4;clear H58;go_wp2_with fail;generalize (w57.setCell ⟨p,0,none⟩ (.int .u8 4))=w63 at *;clear hfz60 hk61 hf62;refine xG H59 hkk (El.meth HA.out .constSpec (by decide) (by simp) (by kernel_rfl)) (fun _ _ h=>⟨rfl,h⟩) ?_;intro v66 r67 t68 n65 w64 hl H69;have HLH69:=hid (Nat.le_trans hl hkk);clear hl;go_wp2_with fail;refine FA H69 (fun _ _ h=>⟨rfl,h⟩) ?_;intro n71 w70 H72;clear H69;go_wp2_with fail;refine (NG H59 H72 (by have:=HLH69.out;simp;omega)).mono ?_;rintro e wz ⟨rfl,HA⟩;clear H72;go_wp2_with fail;go_ret;exact HA.out
   | false =>
    have d56:(E.word (n53:Nat)==[40])=false:=h55;simp only [h55,bs,reduceCtorEq] at H49;clear h55;refine cA H49 ?_;intro w73 H74;clear H49;go_wp2_with fail;refine jA (F:=.one .constSpec) H74 HD (by decide) ⟨rfl,rfl⟩ (fun _ _ h=>⟨rfl,h⟩) ?_;intro q77 t78 n76 w75 H79;clear H74;go_wp2_with fail;refine (eA H79 (by simp)).mono ?_;rintro e wz ⟨rfl,HA⟩;clear H79;go_wp2_with fail;go_ret;exact HA.out
  | false =>
   have d46:(E.word (n:Nat)==[99,111,110,115,116])=false:=h45;simp only [h45,bs,reduceCtorEq] at H3;clear h45;cases h80:E.is n [116,121,112,101] with
   | true =>
    have d81:(E.word (n:Nat)==[116,121,112,101])=true:=h80;simp only [h80,bs,reduceCtorEq] at H3;have HLTh80:=hid (gA h80);have HYh80:=hid h80;clear h80;refine cA H3 ?_;intro w82 H83;clear H3;obtain⟨_,_,_,hat86,_⟩:=H83.out.rd.cells;have hsm87:((n:Nat):Int)≤1099511627776:=by have:=H83.out.rd.at_;have:=H83.out.rd.lie.small;omega
    have hfz85:=H83.out.rd.free 3;have H84:=ZA H83 HLTh80;clear H83;obtain⟨n88,hm⟩:∃ m,m=n+1:=⟨_,rfl⟩;simp only [← hm] at H84;have HMn88:=hid hm;clear hm;go_wp2_with fail;generalize (w82.setCell ⟨c,3,none⟩ (.int .i64 (((n:Nat):Int)+1)))=w89 at *;clear hat86 hsm87 hfz85
    try simp only [show (((n:Nat):Int)+1)=((n88:Nat):Int) from by have:=HMn88.out;omega] at H84
    cases h90:E.is n88 [40] with
    | true =>
     have d91:(E.word (n88:Nat)==[40])=true:=h90;simp only [h90,bs,reduceCtorEq] at H84;have HLTh90:=hid (gA h90);have HYh90:=hid h90;clear h90;refine cA H84 ?_;intro w92 H93;clear H84;obtain⟨hk96,_,hf97,_,_⟩:=H93.out.ex.opn.blk.cells;have hfz95:=H93.out.ex.opn.blk.free 0;have H94:Hid (Sx _ _ _ _ _ _ _ _ (w92.setCell ⟨p,0,none⟩ (.int .u8 4))):=dB H93 4;clear H93;go_wp2_with fail;generalize (w92.setCell ⟨p,0,none⟩ (.int .u8 4))=w98 at *;clear hfz95 hk96 hf97;refine xG H94 hkk (El.meth HA.out .typeSpec (by decide) (by simp) (by kernel_rfl)) (fun _ _ h=>⟨rfl,h⟩) ?_;intro v101 r102 t103 n100 w99 hl H104;have HLH104:=hid (Nat.le_trans hl hkk);clear hl;go_wp2_with fail;refine FA H104 (fun _ _ h=>⟨rfl,h⟩) ?_;intro n106 w105 H107;clear H104;go_wp2_with fail;refine (NG H94 H107 (by have:=HLH104.out;simp;omega)).mono ?_;rintro e wz ⟨rfl,HA⟩;clear H107;go_wp2_with fail;go_ret;exact HA.out
    | false =>
     have d91:(E.word (n88:Nat)==[40])=false:=h90;simp only [h90,bs,reduceCtorEq] at H84;clear h90;refine cA H84 ?_;intro w108 H109;clear H84;go_wp2_with fail;refine jA (F:=.one .typeSpec) H109 HD (by decide) ⟨rfl,rfl⟩ (fun _ _ h=>⟨rfl,h⟩) ?_;intro q112 t113 n111 w110 H114;clear H109;go_wp2_with fail;refine (eA H114 (by simp)).mono ?_;rintro e wz ⟨rfl,HA⟩;clear H114;go_wp2_with fail;go_ret;exact HA.out
   | false =>
    have d81:(E.word (n:Nat)==[116,121,112,101])=false:=h80;simp only [h80,bs,reduceCtorEq] at H3;clear h80;refine cA H3 ?_;intro w115 H116;clear H3;obtain⟨_,_,_,hat119,_⟩:=H116.out.rd.cells;have hsm120:((n:Nat):Int)≤1099511627776:=by have:=H116.out.rd.at_;have:=H116.out.rd.lie.small;omega
    have hfz118:=H116.out.rd.free 3;have H117:=ZA H116 HLT;clear H116;obtain⟨n121,hm⟩:∃ m,m=n+1:=⟨_,rfl⟩;simp only [← hm] at H117;have HMn121:=hid hm;clear hm;go_wp2_with fail;generalize (w115.setCell ⟨c,3,none⟩ (.int .i64 (((n:Nat):Int)+1)))=w122 at *;clear hat119 hsm120 hfz118
    try simp only [show (((n:Nat):Int)+1)=((n121:Nat):Int) from by have:=HMn121.out;omega] at H117
    cases h123:E.is n121 [40] with
    | true =>
     have d124:(E.word (n121:Nat)==[40])=true:=h123;simp only [h123,bs,reduceCtorEq] at H117;have HLTh123:=hid (gA h123);have HYh123:=hid h123;clear h123;refine cA H117 ?_;intro w125 H126;clear H117;obtain⟨hk129,_,hf130,_,_⟩:=H126.out.ex.opn.blk.cells;have hfz128:=H126.out.ex.opn.blk.free 0;have H127:Hid (Sx _ _ _ _ _ _ _ _ (w125.setCell ⟨p,0,none⟩ (.int .u8 4))):=dB H126 4;clear H126;go_wp2_with fail;generalize (w125.setCell ⟨p,0,none⟩ (.int .u8 4))=w131 at *;clear hfz128 hk129 hf130;refine xG H127 hkk (El.meth HA.out .valueSpec (by decide) (by simp) (by kernel_rfl)) (fun _ _ h=>⟨rfl,h⟩) ?_;intro v134 r135 t136 n133 w132 hl H137;have HLH137:=hid (Nat.le_trans hl hkk);clear hl;go_wp2_with fail;refine FA H137 (fun _ _ h=>⟨rfl,h⟩) ?_;intro n139 w138 H140;clear H137;go_wp2_with fail;refine (NG H127 H140 (by have:=HLH137.out;simp;omega)).mono ?_;rintro e wz ⟨rfl,HA⟩;clear H140;go_wp2_with fail;go_ret;exact HA.out
    | false =>
     have d124:(E.word (n121:Nat)==[40])=false:=h123;simp only [h123,bs,reduceCtorEq] at H117;clear h123;refine cA H117 ?_;intro w141 H142;clear H117;go_wp2_with fail;refine jA (F:=.one .valueSpec) H142 HD (by decide) ⟨rfl,rfl⟩ (fun _ _ h=>⟨rfl,h⟩) ?_;intro q145 t146 n144 w143 H147;clear H142;go_wp2_with fail;refine (eA H147 (by simp)).mono ?_;rintro e wz ⟨rfl,HA⟩;clear H147;go_wp2_with fail;go_ret;exact HA.out
theorem YN (H:aB E S) (h:Rd E c n false w) (hr:tI E.toEnv S n≠.out) :
  Calls Tryz.prog 103 #[.pointer (some ⟨c,0,none⟩)] w (Ans E c false (tI E.toEnv S n) w):=by
 have HD:=hid H;clear H;have H0:=Sx.start h hr rfl
 conv at H0=>arg 1;arg 8;unfold tI xE
 try simp only [bs,reduceCtorEq] at H0
 clear h hr;go_enter Tryz.func103,Tryz.ntmps103;go_wp2_with fail;refine yB H0 0 ?_;intro p w1 H2;clear H0;obtain⟨_,_,_,hat4,_⟩:=H2.out.rd.cells;have hsm5:((n:Nat):Int)≤1099511627776:=by have:=H2.out.rd.at_;have:=H2.out.rd.lie.small;omega
 go_wp2_with fail;cases h3:E.named ((n:Nat):Int) with
 | true =>
  simp only [h3,bs,reduceCtorEq] at H2;refine RB H2 _ true h3 ?_;intro w6 H7;clear H2 hat4 hsm5;have HYh3:=hid h3;clear h3;go_wp2_with fail;refine aE (F:=.typeName) H7 HD (by decide) ⟨rfl,rfl⟩ (fun _ _ h=>⟨rfl,h⟩) ?_;intro q wz HA;clear H7;go_wp2_with fail;go_ret;exact HA.out
 | false =>
  simp only [h3,bs,reduceCtorEq] at H2;refine RB H2 _ false h3 ?_;intro w8 H9;clear H2 hat4 hsm5;clear h3;go_wp2_with fail;cases h10:E.is n [42] with
  | true =>
   have d11:(E.word (n:Nat)==[42])=true:=h10;simp only [h10,bs,reduceCtorEq] at H9;have HLTh10:=hid (gA h10);have HYh10:=hid h10;clear h10;refine cA H9 ?_;intro w12 H13;clear H9;obtain⟨_,_,_,hat16,_⟩:=H13.out.rd.cells;have hsm17:((n:Nat):Int)≤1099511627776:=by have:=H13.out.rd.at_;have:=H13.out.rd.lie.small;omega
   have hfz15:=H13.out.rd.free 3;have H14:=ZA H13 HLTh10;clear H13;obtain⟨n18,hm⟩:∃ m,m=n+1:=⟨_,rfl⟩;simp only [← hm] at H14;have HMn18:=hid hm;clear hm;obtain⟨hk21,_,hf22,_,_⟩:=H14.out.ex.opn.blk.cells;have hfz20:=H14.out.ex.opn.blk.free 0;have H19:Hid (Sx _ _ _ _ _ _ _ _ ((w12.setCell ⟨c,3,none⟩ (.int .i64 (((n:Nat):Int)+1))).setCell ⟨p,0,none⟩ (.int .u8 35))):=dB H14 35;clear H14;go_wp2_with fail;generalize ((w12.setCell ⟨c,3,none⟩ (.int .i64 (((n:Nat):Int)+1))).setCell ⟨p,0,none⟩ (.int .u8 35))=w23 at *;clear hat16 hsm17 hfz15 hfz20 hk21 hf22
   try simp only [show (((n:Nat):Int)+1)=((n18:Nat):Int) from by have:=HMn18.out;omega] at H19
   refine cE H19 (fun hr=>ZE HD.out H19.out.rd H19.out.ex (by simp) (fun e=>hr (by rw [e];rfl))) (fun _ _ h=>⟨rfl,h⟩) ?_;intro q wz HA;clear H19;go_wp2_with fail;go_ret;exact HA.out
  | false =>
   have d11:(E.word (n:Nat)==[42])=false:=h10;simp only [h10,bs,reduceCtorEq] at H9;clear h10;cases h24:E.is n [40] with
   | true =>
    have d25:(E.word (n:Nat)==[40])=true:=h24;simp only [h24,bs,reduceCtorEq] at H9;have HLTh24:=hid (gA h24);have HYh24:=hid h24;clear h24;refine cA H9 ?_;intro w26 H27;clear H9;obtain⟨_,_,_,hat30,_⟩:=H27.out.rd.cells;have hsm31:((n:Nat):Int)≤1099511627776:=by have:=H27.out.rd.at_;have:=H27.out.rd.lie.small;omega
    have hfz29:=H27.out.rd.free 3;have H28:=ZA H27 HLTh24;clear H27;obtain⟨n32,hm⟩:∃ m,m=n+1:=⟨_,rfl⟩;simp only [← hm] at H28;have HMn32:=hid hm;clear hm;obtain⟨hk35,_,hf36,_,_⟩:=H28.out.ex.opn.blk.cells;have hfz34:=H28.out.ex.opn.blk.free 0;have H33:Hid (Sx _ _ _ _ _ _ _ _ ((w26.setCell ⟨c,3,none⟩ (.int .i64 (((n:Nat):Int)+1))).setCell ⟨p,0,none⟩ (.int .u8 28))):=dB H28 28;clear H28;go_wp2_with fail;generalize ((w26.setCell ⟨c,3,none⟩ (.int .i64 (((n:Nat):Int)+1))).setCell ⟨p,0,none⟩ (.int .u8 28))=w37 at *;clear hat30 hsm31 hfz29 hfz34 hk35 hf36
    try simp only [show (((n:Nat):Int)+1)=((n32:Nat):Int) from by have:=HMn32.out;omega] at H33
    refine jA (F:=.typ) H33 HD (by decide) ⟨rfl,rfl⟩ (fun _ _ h=>⟨rfl,h⟩) ?_;intro q40 t41 n39 w38 H42;clear H33;go_wp2_with fail;refine FA H42 (fun _ _ h=>⟨rfl,h⟩) ?_;intro n44 w43 H45;clear H42;go_wp2_with fail;refine (eA H45 (by simp)).mono ?_;rintro e wz ⟨rfl,HA⟩;clear H45;go_wp2_with fail;go_ret;exact HA.out
   | false =>
    have d25:(E.word (n:Nat)==[40])=false:=h24;simp only [h24,bs,reduceCtorEq] at H9;clear h24;cases h46:E.is n [91] with
    | true =>
     have d47:(E.word (n:Nat)==[91])=true:=h46;simp only [h46,bs,reduceCtorEq] at H9;have HLTh46:=hid (gA h46);have HYh46:=hid h46;clear h46;refine cA H9 ?_;intro w48 H49;clear H9;obtain⟨_,_,_,hat52,_⟩:=H49.out.rd.cells;have hsm53:((n:Nat):Int)≤1099511627776:=by have:=H49.out.rd.at_;have:=H49.out.rd.lie.small;omega
     have hfz51:=H49.out.rd.free 3;have H50:=ZA H49 HLTh46;clear H49;obtain⟨n54,hm⟩:∃ m,m=n+1:=⟨_,rfl⟩;simp only [← hm] at H50;have HMn54:=hid hm;clear hm;go_wp2_with fail;generalize (w48.setCell ⟨c,3,none⟩ (.int .i64 (((n:Nat):Int)+1)))=w55 at *;clear hat52 hsm53 hfz51
     try simp only [show (((n:Nat):Int)+1)=((n54:Nat):Int) from by have:=HMn54.out;omega] at H50
     refine cE H50 (fun hr=>HD.out.row _ _ _ _ _ _ _ H50.out.rd H50.out.ex hr) (fun _ _ h=>⟨rfl,h⟩) ?_;intro q wz HA;clear H50;go_wp2_with fail;go_ret;exact HA.out
    | false =>
     have d47:(E.word (n:Nat)==[91])=false:=h46;simp only [h46,bs,reduceCtorEq] at H9;clear h46;cases h56:E.is n [109,97,112] with
     | true =>
      have d57:(E.word (n:Nat)==[109,97,112])=true:=h56;simp only [h56,bs,reduceCtorEq] at H9;have HLTh56:=hid (gA h56);have HYh56:=hid h56;clear h56;refine cA H9 ?_;intro w58 H59;clear H9;obtain⟨_,_,_,hat62,_⟩:=H59.out.rd.cells;have hsm63:((n:Nat):Int)≤1099511627776:=by have:=H59.out.rd.at_;have:=H59.out.rd.lie.small;omega
      have hfz61:=H59.out.rd.free 3;have H60:=ZA H59 HLTh56;clear H59;obtain⟨n64,hm⟩:∃ m,m=n+1:=⟨_,rfl⟩;simp only [← hm] at H60;have HMn64:=hid hm;clear hm;obtain⟨hk67,_,hf68,_,_⟩:=H60.out.ex.opn.blk.cells;have hfz66:=H60.out.ex.opn.blk.free 0;have H65:Hid (Sx _ _ _ _ _ _ _ _ ((w58.setCell ⟨c,3,none⟩ (.int .i64 (((n:Nat):Int)+1))).setCell ⟨p,0,none⟩ (.int .u8 44))):=dB H60 44;clear H60;go_wp2_with fail;generalize ((w58.setCell ⟨c,3,none⟩ (.int .i64 (((n:Nat):Int)+1))).setCell ⟨p,0,none⟩ (.int .u8 44))=w69 at *;clear hat62 hsm63 hfz61 hfz66 hk67 hf68
      try simp only [show (((n:Nat):Int)+1)=((n64:Nat):Int) from by have:=HMn64.out;omega] at H65
      refine FA H65 (fun _ _ h=>⟨rfl,h⟩) ?_;intro n71 w70 H72;clear H65;go_wp2_with fail;refine jA (F:=.typ) H72 HD (by decide) ⟨rfl,rfl⟩ (fun _ _ h=>⟨rfl,h⟩) ?_;intro q75 t76 n74 w73 H77;clear H72;go_wp2_with fail;refine FA H77 (fun _ _ h=>⟨rfl,h⟩) ?_;intro n79 w78 H80;clear H77;obtain⟨_,_,_,_,hk81⟩:=H80.out.ex.opn.blk.cells;have hfz82:=H80.out.ex.opn.blk.free 4;go_wp2_with (at_builtin;refine nY rfl _ _ rfl H80 (Nat.le_refl _) rfl rfl (by simp) ?_);intro v83 w84 H85;clear H80 hk81 hfz82;obtain⟨va9,vc9,rfl⟩:=xB H85.out.ex.own;obtain⟨kv9,hb9⟩:=H85.out.ex.blk;have hfz88:=hb9.free 4;obtain⟨_,_,_,_,hk87⟩:=hb9.cells;have H86:=VL H85;clear H85;go_wp2_with fail;clear hfz88 hk87 hb9;refine cE H86 (fun hr=>ZE HD.out H86.out.rd H86.out.ex (by simp) (fun e=>hr (by rw [e];rfl))) (fun _ _ h=>⟨rfl,h⟩) ?_;intro q wz HA;clear H86;go_wp2_with fail;go_ret;exact HA.out
     | false =>
      have d57:(E.word (n:Nat)==[109,97,112])=false:=h56;simp only [h56,bs,reduceCtorEq] at H9;clear h56;cases h90:E.is n [99,104,97,110] with
      | true =>
       have d91:(E.word (n:Nat)==[99,104,97,110])=true:=h90;simp only [h90,bs,reduceCtorEq] at H9;have HLTh90:=hid (gA h90);have HYh90:=hid h90;clear h90;refine cA H9 ?_;intro w92 H93;clear H9;obtain⟨_,_,_,hat96,_⟩:=H93.out.rd.cells;have hsm97:((n:Nat):Int)≤1099511627776:=by have:=H93.out.rd.at_;have:=H93.out.rd.lie.small;omega
       have hfz95:=H93.out.rd.free 3;have H94:=ZA H93 HLTh90;clear H93;obtain⟨n98,hm⟩:∃ m,m=n+1:=⟨_,rfl⟩;simp only [← hm] at H94;have HMn98:=hid hm;clear hm;obtain⟨hk101,_,hf102,_,_⟩:=H94.out.ex.opn.blk.cells;have hfz100:=H94.out.ex.opn.blk.free 0;have H99:Hid (Sx _ _ _ _ _ _ _ _ ((w92.setCell ⟨c,3,none⟩ (.int .i64 (((n:Nat):Int)+1))).setCell ⟨p,0,none⟩ (.int .u8 45))):=dB H94 45;clear H94;obtain⟨_,_,_,hat104,_⟩:=H99.out.rd.cells;have hsm105:((n98:Nat):Int)≤1099511627776:=by have:=H99.out.rd.at_;have:=H99.out.rd.lie.small;omega
       obtain⟨_,hk107,hf108,_,_⟩:=H99.out.ex.opn.blk.cells;have hfz106:=H99.out.ex.opn.blk.free 1;have H103:=oD H99 ((n:Nat):Int);clear H99;go_wp2_with fail;generalize (((w92.setCell ⟨c,3,none⟩ (.int .i64 (((n:Nat):Int)+1))).setCell ⟨p,0,none⟩ (.int .u8 45)).setCell ⟨p,1,none⟩ (.int .i64 ((n:Nat):Int)))=w109 at *;clear hat96 hsm97 hfz95 hfz100 hk101 hf102 hat104 hsm105 hfz106 hk107 hf108
       try simp only [show (((n:Nat):Int)+1)=((n98:Nat):Int) from by have:=HMn98.out;omega] at H103
       refine nO H103 ?_;intro n111 bn111 w110 hm H112;clear H103;simp only [← hm] at H112;clear hm;go_wp2_with fail;refine cE H112 (fun hr=>ZE HD.out H112.out.rd H112.out.ex (by simp) (fun e=>hr (by rw [e];rfl))) (fun _ _ h=>⟨rfl,h⟩) ?_;intro q wz HA;clear H112;go_wp2_with fail;go_ret;exact HA.out
      | false =>
       have d91:(E.word (n:Nat)==[99,104,97,110])=false:=h90;simp only [h90,bs,reduceCtorEq] at H9;clear h90;cases h113:E.is n [60,45] with
       | true =>
        have d114:(E.word (n:Nat)==[60,45])=true:=h113;simp only [h113,bs,reduceCtorEq] at H9;have HLTh113:=hid (gA h113);have HYh113:=hid h113;clear h113;refine cA H9 ?_;intro w115 H116;clear H9;obtain⟨_,_,_,hat119,_⟩:=H116.out.rd.cells;have hsm120:((n:Nat):Int)≤1099511627776:=by have:=H116.out.rd.at_;have:=H116.out.rd.lie.small;omega
        have hfz118:=H116.out.rd.free 3;have H117:=ZA H116 HLTh113;clear H116;obtain⟨n121,hm⟩:∃ m,m=n+1:=⟨_,rfl⟩;simp only [← hm] at H117;have HMn121:=hid hm;clear hm;obtain⟨hk124,_,hf125,_,_⟩:=H117.out.ex.opn.blk.cells;have hfz123:=H117.out.ex.opn.blk.free 0;have H122:Hid (Sx _ _ _ _ _ _ _ _ ((w115.setCell ⟨c,3,none⟩ (.int .i64 (((n:Nat):Int)+1))).setCell ⟨p,0,none⟩ (.int .u8 45))):=dB H117 45;clear H117;obtain⟨_,_,_,hat127,_⟩:=H122.out.rd.cells;have hsm128:((n121:Nat):Int)≤1099511627776:=by have:=H122.out.rd.at_;have:=H122.out.rd.lie.small;omega
        obtain⟨_,hk130,hf131,_,_⟩:=H122.out.ex.opn.blk.cells;have hfz129:=H122.out.ex.opn.blk.free 1;have H126:=oD H122 ((n:Nat):Int);clear H122;go_wp2_with fail;generalize (((w115.setCell ⟨c,3,none⟩ (.int .i64 (((n:Nat):Int)+1))).setCell ⟨p,0,none⟩ (.int .u8 45)).setCell ⟨p,1,none⟩ (.int .i64 ((n:Nat):Int)))=w132 at *;clear hat119 hsm120 hfz118 hfz123 hk124 hf125 hat127 hsm128 hfz129 hk130 hf131
        try simp only [show (((n:Nat):Int)+1)=((n121:Nat):Int) from by have:=HMn121.out;omega] at H126
        refine FA H126 (fun _ _ h=>⟨rfl,h⟩) ?_;intro n134 w133 H135;clear H126;go_wp2_with fail;refine cE H135 (fun hr=>ZE HD.out H135.out.rd H135.out.ex (by simp) (fun e=>hr (by rw [e];rfl))) (fun _ _ h=>⟨rfl,h⟩) ?_;intro q wz HA;clear H135;go_wp2_with fail;go_ret;exact HA.out
       | false =>
        have d114:(E.word (n:Nat)==[60,45])=false:=h113;simp only [h113,bs,reduceCtorEq] at H9;clear h113;cases h136:E.is n [102,117,110,99] with
        | true =>
         have d137:(E.word (n:Nat)==[102,117,110,99])=true:=h136;simp only [h136,bs,reduceCtorEq] at H9;have HLTh136:=hid (gA h136);have HYh136:=hid h136;clear h136;refine cA H9 ?_;intro w138 H139;clear H9;obtain⟨_,_,_,hat142,_⟩:=H139.out.rd.cells;have hsm143:((n:Nat):Int)≤1099511627776:=by have:=H139.out.rd.at_;have:=H139.out.rd.lie.small;omega
         have hfz141:=H139.out.rd.free 3;have H140:=ZA H139 HLTh136;clear H139;obtain⟨n144,hm⟩:∃ m,m=n+1:=⟨_,rfl⟩;simp only [← hm] at H140;have HMn144:=hid hm;clear hm;obtain⟨hk147,_,hf148,_,_⟩:=H140.out.ex.opn.blk.cells;have hfz146:=H140.out.ex.opn.blk.free 0;have H145:Hid (Sx _ _ _ _ _ _ _ _ ((w138.setCell ⟨c,3,none⟩ (.int .i64 (((n:Nat):Int)+1))).setCell ⟨p,0,none⟩ (.int .u8 46))):=dB H140 46;clear H140;go_wp2_with fail;generalize ((w138.setCell ⟨c,3,none⟩ (.int .i64 (((n:Nat):Int)+1))).setCell ⟨p,0,none⟩ (.int .u8 46))=w149 at *;clear hat142 hsm143 hfz141 hfz146 hk147 hf148
         try simp only [show (((n:Nat):Int)+1)=((n144:Nat):Int) from by have:=HMn144.out;omega] at H145
         refine jA (F:=.signature) H145 HD (by decide) ⟨rfl,rfl⟩ (fun _ _ h=>⟨rfl,h⟩) ?_;intro q152 t153 n151 w150 H154;clear H145;go_wp2_with fail;refine (eA H154 (by simp)).mono ?_;rintro e wz ⟨rfl,HA⟩;clear H154;go_wp2_with fail;go_ret;exact HA.out
        | false =>
         have d137:(E.word (n:Nat)==[102,117,110,99])=false:=h136;simp only [h136,bs,reduceCtorEq] at H9;clear h136;cases h155:E.is n [115,116,114,117,99,116] with
         | true =>
          have d156:(E.word (n:Nat)==[115,116,114,117,99,116])=true:=h155;simp only [h155,bs,reduceCtorEq] at H9;have HLTh155:=hid (gA h155);have HYh155:=hid h155;clear h155;refine cA H9 ?_;intro w157 H158;clear H9;obtain⟨_,_,_,hat161,_⟩:=H158.out.rd.cells;have hsm162:((n:Nat):Int)≤1099511627776:=by have:=H158.out.rd.at_;have:=H158.out.rd.lie.small;omega
          have hfz160:=H158.out.rd.free 3;have H159:=ZA H158 HLTh155;clear H158;obtain⟨n163,hm⟩:∃ m,m=n+1:=⟨_,rfl⟩;simp only [← hm] at H159;have HMn163:=hid hm;clear hm;obtain⟨hk166,_,hf167,_,_⟩:=H159.out.ex.opn.blk.cells;have hfz165:=H159.out.ex.opn.blk.free 0;have H164:Hid (Sx _ _ _ _ _ _ _ _ ((w157.setCell ⟨c,3,none⟩ (.int .i64 (((n:Nat):Int)+1))).setCell ⟨p,0,none⟩ (.int .u8 47))):=dB H159 47;clear H159;go_wp2_with fail;generalize ((w157.setCell ⟨c,3,none⟩ (.int .i64 (((n:Nat):Int)+1))).setCell ⟨p,0,none⟩ (.int .u8 47))=w168 at *;clear hat161 hsm162 hfz160 hfz165 hk166 hf167
          try simp only [show (((n:Nat):Int)+1)=((n163:Nat):Int) from by have:=HMn163.out;omega] at H164
          refine cE H164 (fun hr=>HD.out.members 20 .field _ _ _ _ _ _ _ _ _ _ rfl H164.out.rd H164.out.ex (fun e=>hr (by rw [e];rfl))) (fun _ _ h=>⟨rfl,h⟩) ?_;intro q wz HA;clear H164;go_wp2_with fail;go_ret;exact HA.out
         | false =>
          have d156:(E.word (n:Nat)==[115,116,114,117,99,116])=false:=h155;simp only [h155,bs,reduceCtorEq] at H9;clear h155;cases h169:E.is n [105,110,116,101,114,102,97,99,101] with
          | true =>
           have d170:(E.word (n:Nat)==[105,110,116,101,114,102,97,99,101])=true:=h169;simp only [h169,bs,reduceCtorEq] at H9;have HLTh169:=hid (gA h169);have HYh169:=hid h169;clear h169;refine cA H9 ?_;intro w171 H172;clear H9;obtain⟨_,_,_,hat175,_⟩:=H172.out.rd.cells;have hsm176:((n:Nat):Int)≤1099511627776:=by have:=H172.out.rd.at_;have:=H172.out.rd.lie.small;omega
           have hfz174:=H172.out.rd.free 3;have H173:=ZA H172 HLTh169;clear H172;obtain⟨n177,hm⟩:∃ m,m=n+1:=⟨_,rfl⟩;simp only [← hm] at H173;have HMn177:=hid hm;clear hm;obtain⟨hk180,_,hf181,_,_⟩:=H173.out.ex.opn.blk.cells;have hfz179:=H173.out.ex.opn.blk.free 0;have H178:Hid (Sx _ _ _ _ _ _ _ _ ((w171.setCell ⟨c,3,none⟩ (.int .i64 (((n:Nat):Int)+1))).setCell ⟨p,0,none⟩ (.int .u8 48))):=dB H173 48;clear H173;go_wp2_with fail;generalize ((w171.setCell ⟨c,3,none⟩ (.int .i64 (((n:Nat):Int)+1))).setCell ⟨p,0,none⟩ (.int .u8 48))=w182 at *;clear hat175 hsm176 hfz174 hfz179 hk180 hf181
           try simp only [show (((n:Nat):Int)+1)=((n177:Nat):Int) from by have:=HMn177.out;omega] at H178
           refine cE H178 (fun hr=>HD.out.members 23 .elem _ _ _ _ _ _ _ _ _ _ rfl H178.out.rd H178.out.ex (fun e=>hr (by rw [e];rfl))) (fun _ _ h=>⟨rfl,h⟩) ?_;intro q wz HA;clear H178;go_wp2_with fail;go_ret;exact HA.out
          | false =>
           have d170:(E.word (n:Nat)==[105,110,116,101,114,102,97,99,101])=false:=h169;simp only [h169,bs,reduceCtorEq] at H9;clear h169;refine cA H9 ?_;intro w183 H184;clear H9;go_wp2_with fail;exact rG H184 (fun _ _ h=>⟨rfl,h⟩)
theorem uV (H:aB E S) (h:Rd E c n g w) (hr:tI E.toEnv S n≠.out) :
  Calls Tryz.prog 65 #[.pointer (some ⟨c,0,none⟩)] w (Ans E c g (tI E.toEnv S n) w):=by
 have HD:=hid H;clear H;have H0:=Sx.start h hr rfl
 skip
 try simp only [bs,reduceCtorEq] at H0
 clear h hr;go_enter Tryz.func65,Tryz.ntmps65;go_wp2_with fail;refine pG H0 (fun hr=>tS H0.out.rd 103 (by kernel_rfl) (fun w1 hR hF=>YN HD.out hR hr)) (fun _ _ h=>⟨rfl,h⟩) ?_;intro q wz HA;clear H0;go_wp2_with fail;go_ret;exact HA.out
theorem WQ (H:∀ j,j≤k→aB E (kA E.toEnv j)) (hkk:k≤1000000000000) (h:Rd E c n g w) (hr:(kA E.toEnv k).t (.stmtsMore []) n false≠.out) :
  Calls Tryz.prog 67 #[.pointer (some ⟨c,0,none⟩)] w (Ans E c g ((kA E.toEnv k).t (.stmtsMore []) n false) w):=by
 have HA:=hid H;have HD:=hid (H k (Nat.le_refl _));clear H;have H0:=Sx.start h hr rfl
 skip
 try simp only [bs,reduceCtorEq] at H0
 clear h hr;go_enter Tryz.func67,Tryz.ntmps67;go_wp2_with fail;refine pG H0 (fun hr=>tS H0.out.rd 105 (by kernel_rfl) (fun w1 hR hF=>CM HA.out hkk hR hr)) (fun _ _ h=>⟨rfl,h⟩) ?_;intro q wz HA;clear H0;go_wp2_with fail;go_ret;exact HA.out
theorem XS (H:aB E S) (h:Rd E c n g w) (hr:S.t (.binary 1) n g≠.out) :
  Calls Tryz.prog 66 #[.pointer (some ⟨c,0,none⟩)] w (Ans E c g (S.t (.binary 1) n g) w):=by
 have HD:=hid H;clear H;have H0:=Sx.start h hr rfl
 skip
 try simp only [bs,reduceCtorEq] at H0
 clear h hr;go_enter Tryz.func66,Tryz.ntmps66;go_wp2_with fail;refine pG H0 (fun hr=>HD.out.b 1 c n g _ (by decide) (by decide) H0.out.rd hr) (fun _ _ h=>⟨rfl,h⟩) ?_;intro q wz HA;clear H0;go_wp2_with fail;go_ret;exact HA.out
end
end Go.Proofs.YtfmpphplbdojbaaGreatDoor
