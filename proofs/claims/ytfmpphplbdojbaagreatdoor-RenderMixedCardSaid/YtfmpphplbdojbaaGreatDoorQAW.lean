import Derived.Test.YtfmpphplbdojbaaGreatDoorQAV
namespace Go.Proofs.YtfmpphplbdojbaaGreatDoor
open Lib(hid)
set_option linter.all false
set_option maxHeartbeats 40000000
set_option maxRecDepth 100000
section
open Go.RowKit
variable {E:Ev}{S:AB}{c n:Nat}{g:Bool}{w:World}
variable {k:Nat}{w0 w1 w2:World}{p:Nat}{kd:UInt8}{wd:Int}{f t:Nat}{kv v:Value}{ps0:List Nat}{ts0:List Tr}{ps:List Nat}{ts:List Tr}{rs:List Nat}{us:List Tr}{T X:R Tr}
theorem yY {o:Obj}{Bn:Nat}{r:R Tr}{K:Tr->Nat->R Tr}{fn:FuncId}{args:Array Value}{Q:Ending->World->Prop} (h:Hid (Sx E c n g w0 (Nd E c w1 p kd wd f t kv ps0 ts0 ps ts) T (r.andThen K) w)) (hC:r≠.out->Calls Tryz.prog fn args w (Ans E c g r w))
  (hbc:Hid (Bn≠c)) (hbo:Hid (w.heap[Bn]?=some o)) (hB:∀ k w',Ans E c g T w0 (Up k) w'->Q (Up k) w')
  (hQ:∀ q u n' w',Hid (w'.heap[Bn]?=some o)->Hid (r=.ok u n')->Hid (Sx E c n' g w0 (Nd E c w1 p kd wd f t kv ps0 ts0 (ps++[q]) (ts++[u])) T (K u n') w')->Q (.returned (.pointer (some ⟨q,0,none⟩))) w') :
  Calls Tryz.prog fn args w Q:=by
 refine (hC (fun e=>h.out.ne Dq)).mono ?_;intro e w' hA;have hh:=h.out;cases r with
 | out=>exact hA.elim
 | bad m=>obtain⟨rfl,q1,q2⟩:=hA;exact hB m w' (hh.bad rfl q1 q2)
 | ok u m=>obtain⟨q,rfl,q1,q2,q3⟩:=hA;exact hQ q u m w' (q3.at_ (by simpa using hbc.out) hbo.out) rfl ((hh.step q3 q1 rfl).with (hh.ex.kid q3 q2) Nd.later)
theorem yV {b:Nat}{v:Value}{tt:TypeId} (h:w.heap[b]?=some (.cells #[v] tt (0,0))):w.setCell ⟨b,0,none⟩ v=w:=by
 have hh:(w.setCell ⟨b,0,none⟩ v).heap=w.heap:=by
  apply Array.ext_getElem?;intro i;rcases Nat.decEq i b with hne|rfl
  ·exact Ad _ _ _ _ hne
  ·rw [heap_setCell_same w i 0 _ _ _ h,h];rfl
 have h2:w.setCell ⟨b,0,none⟩ v={ w with heap:=(w.setCell ⟨b,0,none⟩ v).heap }:=rfl;rw [h2,hh]
theorem SS {P:World->Prop} (h:Hid (Sx E c n g w0 P T X w)):∃ φ:World->Prop,Hid (φ=fun w'=>Sx E c n g w0 P T X w')/\φ w:=⟨_,rfl,h.out⟩
theorem xU {P:World->Prop}{φ:World->Prop} (h:Hid (φ=fun w'=>Sx E c n g w0 P T X w')) {w':World} (hp:φ w'):Hid (Sx E c n g w0 P T X w'):=by rw [h.out] at hp;exact hp
theorem NK {P:World->Prop}{B1 B2:Nat}{o1 o2:Obj}{Q:Ending->World->Prop} (h:Hid (Sx E c n g w0 P T X w)) (hb:Hid (w.heap[B1]?=some o1/\w.heap[B2]?=some o2)) (i:Int)
  (hQ:∀ w',Hid (w'.heap[B1]?=some o1/\w'.heap[B2]?=some o2)->Hid (Sx E c n g w0 P T X w')->Q (.returned (.string ⟨(E.word i).toArray⟩)) w') :
  Calls Tryz.prog 29 #[.pointer (some ⟨c,0,none⟩),.int .i64 i] w Q:=by
 refine (BH E c i w h.out.rd.cells.1 h.out.rd.cells.2.1 h.out.rd.lie).mono ?_;rintro e w' ⟨rfl,hbl⟩;exact hQ w' ⟨(hbl.block _ (Ah.1 hb.out.1).1).trans hb.out.1,(hbl.block _ (Ah.1 hb.out.2).1).trans hb.out.2⟩ (h.out.below hbl)
theorem fX {P:World->Prop}{B1:Nat}{o1:Obj}{Q:Ending->World->Prop} (h:Hid (Sx E c n g w0 P T X w)) (hb:Hid (w.heap[B1]?=some o1))
  (hQ:∀ w',Hid (w'.heap[B1]?=some o1)->Hid (Sx E c n g w0 P T X w')->Q (.returned (.string ⟨(E.word (n:Int)).toArray⟩)) w') :
  Calls Tryz.prog 109 #[.pointer (some ⟨c,0,none⟩)] w Q:=by
 refine (pE h.out.rd).mono ?_;rintro e w' ⟨rfl,hbl⟩;exact hQ w' ((hbl.block _ (Ah.1 hb.out).1).trans hb.out) (h.out.below hbl)
theorem oX {p2:Nat}{kd2:UInt8}{wd2:Int}{f2 t2:Nat}{kv2:Value}{ps2:List Nat}{ts2:List Tr}{n0:Nat}{X0:R Tr}{w':World} (H:Hid (Sx E c n0 g w0 (Nd E c w1 p kd wd f t kv ps0 ts0 ps ts) T X0 w)) (h:Hid (Sx E c n g w0 (Nd E c w p2 kd2 wd2 f2 t2 kv2 ps2 ts2 rs us) T X w')) :
  Hid (Sx E c n g w0 (Nd E c w1 p kd wd f t kv ps0 ts0 (ps++rs) (ts++us)) T X w') :=
 h.out.with (Nd.join H.out.ex h.out.ex.fr h.out.ex.kids (fun b hb=>⟨hb.1,hb.2.1⟩)) Nd.later
theorem nX {o:Obj}{Bn p2 n0:Nat}{X0:R Tr}{P2:World->Prop}{r:R Tr}{K:Tr->Nat->R Tr}{fn:FuncId}{args:Array Value}{Q:Ending->World->Prop}{wa:World} (H:Hid (Sx E c n0 g w0 (Nd E c w1 p kd wd f t kv ps0 ts0 ps ts) T X0 wa)) (h:Hid (Sx E c n g w0 P2 T (r.andThen K) w))
  (hC:r≠.out->Calls Tryz.prog fn args w (XJ (fun q=>q=p2) (E.guard Bn o) c g r wa)) (hB:∀ k w',Ans E c g T w0 (Up k) w'->Q (Up k) w')
  (hQ:∀ u n' w',Hid (w'.heap[Bn]?=some o)->Hid (r=.ok u n')->Hid (Sx E c n' g w0 (Nd E c w1 p kd wd f t kv ps0 ts0 (ps++[p2]) (ts++[u])) T (K u n') w')->Q (.returned (.pointer (some ⟨p2,0,none⟩))) w'):Calls Tryz.prog fn args w Q:=by
 refine (hC (fun e=>h.out.ne Dq)).mono ?_;rintro e w' ⟨hp,hA⟩;have hh:=h.out;have hH:=H.out;cases r with
 | out=>exact hA.elim
 | bad k=>obtain⟨rfl,⟨g',q1⟩,q2⟩:=hA;exact hB k w' (by rw [hh.eq];exact⟨rfl,⟨g',q1.unguard hH.rd q2⟩,hH.fr.trans q2⟩)
 | ok u m =>
  obtain⟨q,rfl,q1,q2,q3⟩:=hA;have:=hp q rfl;subst this;exact hQ u m w' q1.stands rfl ⟨q1.unguard hH.rd q3,hH.fr.trans q3,hH.cw,hH.ex.kid q3 q2,Nd.later,hh.eq,hh.ne⟩
theorem LY {B Bs Bl p ql:Nat}{φ:Nat->Prop}{r:R Tr} (hr:w.cell? ⟨B,0,none⟩=some (.pointer (some ⟨c,0,none⟩))) (hs:w.cell? ⟨Bs,0,none⟩=some (.pointer (some ⟨p,0,none⟩))) (hl:w.cell? ⟨Bl,0,none⟩=some (.pointer (some ⟨ql,0,none⟩)))
  (H:Calls Tryz.prog 227 #[.pointer (some ⟨c,0,none⟩),.pointer (some ⟨p,0,none⟩),.pointer (some ⟨ql,0,none⟩)] w (XJ φ E c g r w0)) :
  Calls Tryz.prog 254 #[.pointer (some ⟨B,0,none⟩),.pointer (some ⟨Bs,0,none⟩),.pointer (some ⟨Bl,0,none⟩)] w (XJ φ E c g r w0):=by
 have HH:=hid H;clear H;go_enter Tryz.func254,Tryz.ntmps254;go_wp2_with fail;refine HH.out.mono ?_;rintro e w' ⟨hq,hA⟩;rcases hA.shape with ⟨q,rfl⟩|⟨m,rfl⟩
 ·clear HH hr hs hl;have HA:=hid (And.intro hq hA);clear hq hA;go_wp2_with fail;go_ret;exact HA.out
 ·exact⟨rfl,hq,hA⟩
theorem jT (H:aB E S) (HG:∀ E':Ev,E'.toEnv=E.toEnv->aB E' S) (hso:SOk E.toEnv S) (h:Rd E c n g w) (hn:n < E.l.length) (hr:fG E.toEnv S n g≠.out) :
  Calls Tryz.prog 226 #[.pointer (some ⟨c,0,none⟩)] w (Ans E c g (fG E.toEnv S n g) w):=by
 have HLT:=hid hn;clear hn;have HD:=hid H;clear H;have hB:=(J' w.heap.size w).alloc (C' _) (Obj.cells #[.pointer (some ⟨c,0,none⟩)] 54);have hbx:=nE w (.pointer (some ⟨c,0,none⟩)) 54;have HX:=hid (And.intro hbx h.lt);have HFB:=hid (lA c hB);have H0:=Sx.start (h.below hB) hr rfl
 conv at H0=>arg 1;arg 8;unfold fG kD
 try simp only [bs,reduceCtorEq] at H0
 have HGG:=hid HG;clear HG;have HSO:=hid hso;clear hso;clear h hr hB;go_enter Tryz.func226,Tryz.ntmps226;go_wp2_with fail;generalize w.alloc (.cells #[.pointer (some ⟨c,0,none⟩)] 54)=wB at *;generalize w.heap.size=B at *;clear hbx;refine yB H0 65 ?_;intro p w1 H2;clear H0;have hbx3:=H2.out.fr.cell (a:=⟨B,0,none⟩) Cg HX.out.1;obtain⟨_,_,_,hat6,_⟩:=H2.out.rd.cells;have hsm7:((n:Nat):Int)<=1099511627776:=C8
 have hfz5:=H2.out.rd.free 3;have H4:=ZA H2 HLT;clear H2;obtain⟨n8,hm⟩:∃ m,m=n+1:=⟨_,rfl⟩;simp only [<- hm] at H4;have HMn8:=hid hm;clear hm;have hbx10:=H4.out.fr.cell (a:=⟨B,0,none⟩) Cg HX.out.1;go_wp2_with fail;generalize (w1.setCell ⟨c,3,none⟩ (.int .i64 (((n:Nat):Int)+1)))=w9 at *;clear hbx3 hat6 hsm7 hfz5 hbx10
 try simp only [show (((n:Nat):Int)+1)=((n8:Nat):Int) from by have:=HMn8.out;omega] at H4
 refine IA H4 0 ?_;intro q12 w11 H13;clear H4;have hbx14:=H13.out.fr.cell (a:=⟨B,0,none⟩) Cg HX.out.1;go_wp2_with fail;clear hbx14;cases h15:E.is n8 [123] with
 | true =>
  have d16:(E.word (n8:Nat)==[123])=true:=h15;simp only [h15,bs,reduceCtorEq] at H13;have HLTh15:=hid (gA h15);have HYh15:=hid h15;clear h15;refine cA H13 ?_;intro w17 H18;clear H13;have hbx19:=H18.out.fr.cell (a:=⟨B,0,none⟩) Cg HX.out.1;go_wp2_with fail;have H20:=yC H18;clear H18
  go_region_held (fun w'=>w'.cell? ⟨B,0,none⟩=some (.pointer (some ⟨c,0,none⟩))) (first|(first|assumption|exact aA ((J' _ _).alloc (C' _) _) ‹_›)) (first|(go_at_call 153;refine IA H20 0 ?_;intro q22 w21 H23;clear H20;have hbx24:=H23.out.fr.cell (a:=⟨B,0,none⟩) Cg HX.out.1)|(go_at_call 153;refine IA H23 0 ?_;intro q26 w25 H27;clear H23;have hbx28:=H27.out.fr.cell (a:=⟨B,0,none⟩) Cg HX.out.1)|(go_at_call 163;refine jA (F:=.block) H27 HD Ch ⟨rfl,rfl⟩ (fun _ _ h=>⟨rfl,h.behind HFB.out⟩) ?_;intro q31 t32 n30 w29 H33;clear H27;have hbx34:=H33.out.fr.cell (a:=⟨B,0,none⟩) Cg HX.out.1)|(go_at_call 113;refine (eA H33 Cm).mono ?_;rintro e wz ⟨rfl,HZ⟩;clear H33;have hbx35:=(Ans.fr HZ.out).cell (a:=⟨B,0,none⟩) Cg HX.out.1))
  go_wp2_with fail;go_ret;exact HZ.out.behind HFB.out
 | false =>
  have d16:(E.word (n8:Nat)==[123])=false:=h15;simp only [h15,bs,reduceCtorEq] at H13;clear h15;cases h36:E.is n8 [114,97,110,103,101] with
  | true =>
   have d37:(E.word (n8:Nat)==[114,97,110,103,101])=true:=h36;simp only [h36,bs,reduceCtorEq] at H13;have HLTh36:=hid (gA h36);have HYh36:=hid h36;clear h36;refine cA H13 ?_;intro w38 H39;clear H13;have hbx40:=H39.out.fr.cell (a:=⟨B,0,none⟩) Cg HX.out.1;go_wp2_with fail;clear hbx40;refine cE H39 (fun hr=>HD.out.overall _ _ _ _ _ _ _ _ _ _ _ _ H39.out.rd H39.out.ex hr) (fun _ _ h=>⟨rfl,h.behind HFB.out⟩) ?_;intro q wz HA;clear H39;go_wp2_with fail;go_ret;exact HA.out.behind HFB.out
  | false =>
   have d37:(E.word (n8:Nat)==[114,97,110,103,101])=false:=h36;simp only [h36,bs,reduceCtorEq] at H13;clear h36;cases h41:E.is n8 [59] with
   | true =>
    have d42:(E.word (n8:Nat)==[59])=true:=h41;simp only [h41,bs,reduceCtorEq] at H13;have HLTh41:=hid (gA h41);have HYh41:=hid h41;clear h41;refine cA H13 ?_;intro w43 H44;clear H13;have hbx45:=H44.out.fr.cell (a:=⟨B,0,none⟩) Cg HX.out.1;go_wp2_with fail;clear hbx45;refine FA H44 (fun _ _ h=>⟨rfl,h.behind HFB.out⟩) ?_;intro n47 w46 H48;clear H44;have hbx49:=H48.out.fr.cell (a:=⟨B,0,none⟩) Cg HX.out.1;go_wp2_with fail;clear hbx49;refine IA H48 0 ?_;intro q51 w50 H52;clear H48;have hbx53:=H52.out.fr.cell (a:=⟨B,0,none⟩) Cg HX.out.1;go_wp2_with fail;clear hbx53;cases h54:E.is n47 [59] with
    | true =>
     have d55:(E.word (n47:Nat)==[59])=true:=h54;simp only [h54,bs,reduceCtorEq] at H52;have HLTh54:=hid (gA h54);have HYh54:=hid h54;clear h54;refine cA H52 ?_;intro w56 H57;clear H52;have hbx58:=H57.out.fr.cell (a:=⟨B,0,none⟩) Cg HX.out.1;go_wp2_with fail;clear hbx58;refine FA H57 (fun _ _ h=>⟨rfl,h.behind HFB.out⟩) ?_;intro n60 w59 H61;clear H57;have hbx62:=H61.out.fr.cell (a:=⟨B,0,none⟩) Cg HX.out.1;go_wp2_with fail;clear hbx62;refine IA H61 0 ?_;intro q64 w63 H65;clear H61;have hbx66:=H65.out.fr.cell (a:=⟨B,0,none⟩) Cg HX.out.1;go_wp2_with fail;clear hbx66;cases h67:E.is n60 [123] with
     | true =>
      have d68:(E.word (n60:Nat)==[123])=true:=h67;simp only [h67,bs,reduceCtorEq] at H65;have HLTh67:=hid (gA h67);have HYh67:=hid h67;clear h67;refine cA H65 ?_;intro w69 H70;clear H65;have hbx71:=H70.out.fr.cell (a:=⟨B,0,none⟩) Cg HX.out.1;go_wp2_with fail;have H72:=yC H70;clear H70
      go_region_held (fun w'=>w'.cell? ⟨B,0,none⟩=some (.pointer (some ⟨c,0,none⟩))) (first|(first|assumption|exact aA ((J' _ _).alloc (C' _) _) ‹_›)) (first|(go_at_call 163;refine jA (F:=.block) H72 HD Ch ⟨rfl,rfl⟩ (fun _ _ h=>⟨rfl,h.behind HFB.out⟩) ?_;intro q75 t76 n74 w73 H77;clear H72;have hbx78:=H77.out.fr.cell (a:=⟨B,0,none⟩) Cg HX.out.1)|(go_at_call 113;refine (eA H77 Cm).mono ?_;rintro e wz ⟨rfl,HZ⟩;clear H77;have hbx79:=(Ans.fr HZ.out).cell (a:=⟨B,0,none⟩) Cg HX.out.1))
      go_wp2_with fail;go_ret;exact HZ.out.behind HFB.out
     | false =>
      have d68:(E.word (n60:Nat)==[123])=false:=h67;simp only [h67,bs,reduceCtorEq] at H65;clear h67;refine cA H65 ?_;intro w80 H81;clear H65;have H82:=pB H81;clear H81;have hbx83:=H82.out.fr.cell (a:=⟨B,0,none⟩) Cg HX.out.1;go_wp2_with fail;clear hbx83;refine TB H82 (fun hr=>SE H82.out.rd HD.out .simple Ch ⟨rfl,rfl⟩ Ci hr) (fun _ _ h=>⟨rfl,h.behind HFB.out⟩) ?_;intro q86 t87 n85 w84 H88;clear H82;have hbx89:=H88.out.fr.cell (a:=⟨B,0,none⟩) Cg HX.out.1;go_wp2_with fail;have H90:=yC H88;clear H88
      go_region_held (fun w'=>w'.cell? ⟨B,0,none⟩=some (.pointer (some ⟨c,0,none⟩))) (first|(first|assumption|exact aA ((J' _ _).alloc (C' _) _) ‹_›)) (first|(go_at_call 163;refine jA (F:=.block) H90 HD Ch ⟨rfl,rfl⟩ (fun _ _ h=>⟨rfl,h.behind HFB.out⟩) ?_;intro q93 t94 n92 w91 H95;clear H90;have hbx96:=H95.out.fr.cell (a:=⟨B,0,none⟩) Cg HX.out.1)|(go_at_call 113;refine (eA H95 Cm).mono ?_;rintro e wz ⟨rfl,HZ⟩;clear H95;have hbx97:=(Ans.fr HZ.out).cell (a:=⟨B,0,none⟩) Cg HX.out.1))
      go_wp2_with fail;go_ret;exact HZ.out.behind HFB.out
    | false =>
     have d55:(E.word (n47:Nat)==[59])=false:=h54;simp only [h54,bs,reduceCtorEq] at H52;clear h54;refine cA H52 ?_;intro w98 H99;clear H52;have H100:=pB H99;clear H99;have hbx101:=H100.out.fr.cell (a:=⟨B,0,none⟩) Cg HX.out.1;go_wp2_with fail;clear hbx101;refine TB H100 (fun hr=>SE H100.out.rd HD.out .expr Ch ⟨rfl,rfl⟩ Ci hr) (fun _ _ h=>⟨rfl,h.behind HFB.out⟩) ?_;intro q104 t105 n103 w102 H106;clear H100;have hbx107:=H106.out.fr.cell (a:=⟨B,0,none⟩) Cg HX.out.1;go_wp2_with fail;clear hbx107;refine FA H106 (fun _ _ h=>⟨rfl,h.behind HFB.out⟩) ?_;intro n109 w108 H110;clear H106;have hbx111:=H110.out.fr.cell (a:=⟨B,0,none⟩) Cg HX.out.1;go_wp2_with fail;clear hbx111;refine IA H110 0 ?_;intro q113 w112 H114;clear H110;have hbx115:=H114.out.fr.cell (a:=⟨B,0,none⟩) Cg HX.out.1;go_wp2_with fail;clear hbx115;cases h116:E.is n109 [123] with
     | true =>
      have d117:(E.word (n109:Nat)==[123])=true:=h116;simp only [h116,bs,reduceCtorEq] at H114;have HLTh116:=hid (gA h116);have HYh116:=hid h116;clear h116;refine cA H114 ?_;intro w118 H119;clear H114;have hbx120:=H119.out.fr.cell (a:=⟨B,0,none⟩) Cg HX.out.1;go_wp2_with fail;have H121:=yC H119;clear H119
      go_region_held (fun w'=>w'.cell? ⟨B,0,none⟩=some (.pointer (some ⟨c,0,none⟩))) (first|(first|assumption|exact aA ((J' _ _).alloc (C' _) _) ‹_›)) (first|(go_at_call 163;refine jA (F:=.block) H121 HD Ch ⟨rfl,rfl⟩ (fun _ _ h=>⟨rfl,h.behind HFB.out⟩) ?_;intro q124 t125 n123 w122 H126;clear H121;have hbx127:=H126.out.fr.cell (a:=⟨B,0,none⟩) Cg HX.out.1)|(go_at_call 113;refine (eA H126 Cm).mono ?_;rintro e wz ⟨rfl,HZ⟩;clear H126;have hbx128:=(Ans.fr HZ.out).cell (a:=⟨B,0,none⟩) Cg HX.out.1))
      go_wp2_with fail;go_ret;exact HZ.out.behind HFB.out
     | false =>
      have d117:(E.word (n109:Nat)==[123])=false:=h116;simp only [h116,bs,reduceCtorEq] at H114;clear h116;refine cA H114 ?_;intro w129 H130;clear H114;have H131:=pB H130;clear H130;have hbx132:=H131.out.fr.cell (a:=⟨B,0,none⟩) Cg HX.out.1;go_wp2_with fail;clear hbx132;refine TB H131 (fun hr=>SE H131.out.rd HD.out .simple Ch ⟨rfl,rfl⟩ Ci hr) (fun _ _ h=>⟨rfl,h.behind HFB.out⟩) ?_;intro q135 t136 n134 w133 H137;clear H131;have hbx138:=H137.out.fr.cell (a:=⟨B,0,none⟩) Cg HX.out.1;go_wp2_with fail;have H139:=yC H137;clear H137
      go_region_held (fun w'=>w'.cell? ⟨B,0,none⟩=some (.pointer (some ⟨c,0,none⟩))) (first|(first|assumption|exact aA ((J' _ _).alloc (C' _) _) ‹_›)) (first|(go_at_call 163;refine jA (F:=.block) H139 HD Ch ⟨rfl,rfl⟩ (fun _ _ h=>⟨rfl,h.behind HFB.out⟩) ?_;intro q142 t143 n141 w140 H144;clear H139;have hbx145:=H144.out.fr.cell (a:=⟨B,0,none⟩) Cg HX.out.1)|(go_at_call 113;refine (eA H144 Cm).mono ?_;rintro e wz ⟨rfl,HZ⟩;clear H144;have hbx146:=(Ans.fr HZ.out).cell (a:=⟨B,0,none⟩) Cg HX.out.1))
      go_wp2_with fail;go_ret;exact HZ.out.behind HFB.out
   | false =>
    have d42:(E.word (n8:Nat)==[59])=false:=h41;simp only [h41,bs,reduceCtorEq] at H13;clear h41;refine cA H13 ?_;intro w147 H148;clear H13;have hbxa:=H148.out.fr.cell (a:=⟨B,0,none⟩) Cg HX.out.1;go_wp2_with fail;clear hbxa;refine TK H148 0 ?_;intro p2 w5 HP;have HQ:=FF HP (.cells #[.pointer (some ⟨p2,0,none⟩)] 51);have hbxb:=HQ.out.fr.cell (a:=⟨B,0,none⟩) Cg HX.out.1;have hb7:=heap_alloc_new w5 (.cells #[.pointer (some ⟨p2,0,none⟩)] 51);have hbxc:=HP.out.fr.cell (a:=⟨B,0,none⟩) Cg HX.out.1;have hsz:=HP.out.ex.opn.blk.lt;have hpz:=HP.out.ex.opn.low;have hpl:=(Nd.later _ _ H148.out.ex HP.out.ex.fr).opn.blk.lt;go_wp2_with fail;clear hbxb hbxc;have HQF:=hid (And.intro hsz (And.intro hpz hpl));have HBC:=hid (show w5.heap.size≠c by have:=HP.out.rd.lt;omega);have HB7:=hid hb7;clear hsz hpz hpl hb7;refine yY (o:=(.cells #[.pointer (some ⟨p2,0,none⟩)] 51)) (Bn:=w5.heap.size) HQ (fun hr=>SE HQ.out.rd HD.out .exprs Ch ⟨rfl,rfl⟩ Ci hr) HBC HB7 (fun _ _ h=>⟨rfl,h.behind HFB.out⟩) ?_;intro ql ul m8 w8 HB8 HE8 H8;clear HQ HB7;have H9:=FF H8 (.cells #[.pointer (some ⟨ql,0,none⟩)] 51);have hlt8:w5.heap.size < w8.heap.size:=(Ah.1 HB8.out).1;have hb9s:(w8.alloc (.cells #[.pointer (some ⟨ql,0,none⟩)] 51)).heap[w5.heap.size]?=some (.cells #[.pointer (some ⟨p2,0,none⟩)] 51):=(((J' w8.heap.size w8).alloc (C' _) _).block _ hlt8).trans HB8.out;have hb9l:=heap_alloc_new w8 (.cells #[.pointer (some ⟨ql,0,none⟩)] 51);have hbxd:=H8.out.fr.cell (a:=⟨B,0,none⟩) Cg HX.out.1;have hbxe:=H9.out.fr.cell (a:=⟨B,0,none⟩) Cg HX.out.1;go_wp2_with fail;refine (pE H9.out.rd).mono ?_;rintro e w10 ⟨rfl,hb⟩;have H10:=hid (H9.out.below hb);have hb10s:w10.heap[w5.heap.size]?=some (.cells #[.pointer (some ⟨p2,0,none⟩)] 51):=(hb.block _ Cn).trans hb9s;have hb10l:w10.heap[w8.heap.size]?=some (.cells #[.pointer (some ⟨ql,0,none⟩)] 51):=(hb.block _ Cm).trans hb9l;have HB10:=hid (And.intro hb10s hb10l);have HN8:=hid hlt8;clear hb hb9s hb9l hb10s hb10l hbxd hbxe hlt8 H8 H9;have hbxf:=H10.out.fr.cell (a:=⟨B,0,none⟩) Cg HX.out.1;go_wp2_with fail;obtain⟨φ,HPH,hφ⟩:=SS H10;obtain⟨_,_,_,hat,_⟩:=H10.out.rd.cells;have hsm:((m8:Nat):Int)<=1099511627776:=Eh
    have hwr:IntKind.i64.wrap ((m8:Int)+1)=(m8:Int)+1:=Cs
    go_cut [48] from 33 (fun v wx=>v=.bool ((E.is m8 [61]||E.is m8 [58,61])&&E.is (m8+1) [114,97,110,103,101])/\wx.heap[w5.heap.size]?=some (.cells #[.pointer (some ⟨p2,0,none⟩)] 51)/\wx.heap[w8.heap.size]?=some (.cells #[.pointer (some ⟨ql,0,none⟩)] 51)/\φ wx)
    case first =>
     have H10d:=yC H10;have HB10d:Hid (w10.drew.heap[w5.heap.size]?=some (.cells #[.pointer (some ⟨p2,0,none⟩)] 51)/\w10.drew.heap[w8.heap.size]?=some (.cells #[.pointer (some ⟨ql,0,none⟩)] 51)):=HB10;cases h1:E.is m8 [61] with
     | true =>
      have d1:(E.word (m8:Nat)==[61])=true:=h1;cases h3:E.is (m8+1) [114,97,110,103,101] with
      | true =>
       have d3:(E.word ((m8:Int)+1)==[114,97,110,103,101])=true:=Di
       refine wp_region_held_drew (S:=fun w'=>w'.cell? ⟨B,0,none⟩=some (.pointer (some ⟨c,0,none⟩))/\w'.cell? ⟨c,3,none⟩=some (.int .i64 (m8:Int))) Ci ?_ (fun hHeld=>?_)
       ·exact Aw
       refine tk 0 ?_;try simp only [Act.put,ls]
       refine tk 1 ?_;try simp only [Act.put,ls]
       refine tk 2 ?_;try simp only [Act.put,ls]
       refine ts 3 ?_;try simp only [Act.put,ls]
       refine ts 4 ?_;try simp only [Act.put,ls]
       refine tk 5 ?_;try simp only [Act.put,ls]
       refine tk 6 ?_;try simp only [Act.put,ls]
       refine tk 7 ?_;try simp only [Act.put,ls]
       refine tk 8 ?_;try simp only [Act.put,ls]
       refine tk 9 ?_;try simp only [Act.put,ls]
       refine tk 10 ?_;try simp only [Act.put,ls]
       refine tk 11 ?_;try simp only [Act.put,ls]
       refine tk 12 ?_;try simp only [Act.put,ls]
       refine wpAnyH_ready (rs:=[13]) Ci Cm (AllReadyH.cons (o:=?_) ?_ (fun K hK=>?_) AllReadyH.nil)
       rotate_left
       ·exact Ax
       go_simp
       (go_at_call 29;refine NK H10d HB10d _ ?_;intro w11 HB11 H11;clear H10 H10d HB10d;have hbx11:=H11.out.fr.cell (a:=⟨B,0,none⟩) Cg HX.out.1;obtain⟨_,_,_,hat11,_⟩:=H11.out.rd.cells)
       go_wp2_with fail;refine hK.out _ _ ?_ (fun hHeld13=>?_)
       ·exact Aw
       clear hK K
       try simp only [Act.put,N',Q',S']
       refine tk 14 ?_;try simp only [Act.put,ls]
       refine tk 15 ?_;try simp only [Act.put,ls]
       refine wpAnyH_done Ci ?_ _;go_wp2_with fail
       go_meet
       case rel=>exact⟨by rw [h1,h3];rfl,HB11.out.1,HB11.out.2,F3⟩
      | false =>
       have d3:(E.word ((m8:Int)+1)==[114,97,110,103,101])=false:=Di
       refine wp_region_held_drew (S:=fun w'=>w'.cell? ⟨B,0,none⟩=some (.pointer (some ⟨c,0,none⟩))/\w'.cell? ⟨c,3,none⟩=some (.int .i64 (m8:Int))) Ci ?_ (fun hHeld=>?_)
       ·exact Aw
       refine tk 0 ?_;try simp only [Act.put,ls]
       refine tk 1 ?_;try simp only [Act.put,ls]
       refine tk 2 ?_;try simp only [Act.put,ls]
       refine ts 3 ?_;try simp only [Act.put,ls]
       refine ts 4 ?_;try simp only [Act.put,ls]
       refine tk 5 ?_;try simp only [Act.put,ls]
       refine tk 6 ?_;try simp only [Act.put,ls]
       refine tk 7 ?_;try simp only [Act.put,ls]
       refine tk 8 ?_;try simp only [Act.put,ls]
       refine tk 9 ?_;try simp only [Act.put,ls]
       refine tk 10 ?_;try simp only [Act.put,ls]
       refine tk 11 ?_;try simp only [Act.put,ls]
       refine tk 12 ?_;try simp only [Act.put,ls]
       refine wpAnyH_ready (rs:=[13]) Ci Cm (AllReadyH.cons (o:=?_) ?_ (fun K hK=>?_) AllReadyH.nil)
       rotate_left
       ·exact Ax
       go_simp
       (go_at_call 29;refine NK H10d HB10d _ ?_;intro w11 HB11 H11;clear H10 H10d HB10d;have hbx11:=H11.out.fr.cell (a:=⟨B,0,none⟩) Cg HX.out.1;obtain⟨_,_,_,hat11,_⟩:=H11.out.rd.cells)
       go_wp2_with fail;refine hK.out _ _ ?_ (fun hHeld13=>?_)
       ·exact Aw
       clear hK K
       try simp only [Act.put,N',Q',S']
       refine tk 14 ?_;try simp only [Act.put,ls]
       refine tk 15 ?_;try simp only [Act.put,ls]
       refine wpAnyH_done Ci ?_ _;go_wp2_with fail
       go_meet
       case rel=>exact⟨by rw [h1,h3];rfl,HB11.out.1,HB11.out.2,F3⟩
     | false =>
      have d1:(E.word (m8:Nat)==[61])=false:=h1;cases h2:E.is m8 [58,61] with
      | true =>
       have d2:(E.word (m8:Nat)==[58,61])=true:=h2;cases h3:E.is (m8+1) [114,97,110,103,101] with
       | true =>
        have d3:(E.word ((m8:Int)+1)==[114,97,110,103,101])=true:=Di
        refine wp_region_held_drew (S:=fun w'=>w'.cell? ⟨B,0,none⟩=some (.pointer (some ⟨c,0,none⟩))/\w'.cell? ⟨c,3,none⟩=some (.int .i64 (m8:Int))) Ci ?_ (fun hHeld=>?_)
        ·exact Aw
        refine tk 0 ?_;try simp only [Act.put,ls]
        refine tk 1 ?_;try simp only [Act.put,ls]
        refine tk 2 ?_;try simp only [Act.put,ls]
        refine tk 3 ?_;try simp only [Act.put,ls]
        refine tk 4 ?_;try simp only [Act.put,ls]
        refine tk 5 ?_;try simp only [Act.put,ls]
        refine tk 6 ?_;try simp only [Act.put,ls]
        refine tk 7 ?_;try simp only [Act.put,ls]
        refine tk 8 ?_;try simp only [Act.put,ls]
        refine tk 9 ?_;try simp only [Act.put,ls]
        refine tk 10 ?_;try simp only [Act.put,ls]
        refine tk 11 ?_;try simp only [Act.put,ls]
        refine tk 12 ?_;try simp only [Act.put,ls]
        refine wpAnyH_ready (rs:=[13]) Ci Cm (AllReadyH.cons (o:=?_) ?_ (fun K hK=>?_) AllReadyH.nil)
        rotate_left
        ·exact Ax
        go_simp
        (go_at_call 29;refine NK H10d HB10d _ ?_;intro w11 HB11 H11;clear H10 H10d HB10d;have hbx11:=H11.out.fr.cell (a:=⟨B,0,none⟩) Cg HX.out.1;obtain⟨_,_,_,hat11,_⟩:=H11.out.rd.cells)
        go_wp2_with fail;refine hK.out _ _ ?_ (fun hHeld13=>?_)
        ·exact Aw
        clear hK K
        try simp only [Act.put,N',Q',S']
        refine tk 14 ?_;try simp only [Act.put,ls]
        refine tk 15 ?_;try simp only [Act.put,ls]
        refine wpAnyH_done Ci ?_ _;go_wp2_with fail
        go_meet
        case rel=>exact⟨by rw [h1,h2,h3];rfl,HB11.out.1,HB11.out.2,F3⟩
       | false =>
        have d3:(E.word ((m8:Int)+1)==[114,97,110,103,101])=false:=Di
        refine wp_region_held_drew (S:=fun w'=>w'.cell? ⟨B,0,none⟩=some (.pointer (some ⟨c,0,none⟩))/\w'.cell? ⟨c,3,none⟩=some (.int .i64 (m8:Int))) Ci ?_ (fun hHeld=>?_)
        ·exact Aw
        refine tk 0 ?_;try simp only [Act.put,ls]
        refine tk 1 ?_;try simp only [Act.put,ls]
        refine tk 2 ?_;try simp only [Act.put,ls]
        refine tk 3 ?_;try simp only [Act.put,ls]
        refine tk 4 ?_;try simp only [Act.put,ls]
        refine tk 5 ?_;try simp only [Act.put,ls]
        refine tk 6 ?_;try simp only [Act.put,ls]
        refine tk 7 ?_;try simp only [Act.put,ls]
        refine tk 8 ?_;try simp only [Act.put,ls]
        refine tk 9 ?_;try simp only [Act.put,ls]
        refine tk 10 ?_;try simp only [Act.put,ls]
        refine tk 11 ?_;try simp only [Act.put,ls]
        refine tk 12 ?_;try simp only [Act.put,ls]
        refine wpAnyH_ready (rs:=[13]) Ci Cm (AllReadyH.cons (o:=?_) ?_ (fun K hK=>?_) AllReadyH.nil)
        rotate_left
        ·exact Ax
        go_simp
        (go_at_call 29;refine NK H10d HB10d _ ?_;intro w11 HB11 H11;clear H10 H10d HB10d;have hbx11:=H11.out.fr.cell (a:=⟨B,0,none⟩) Cg HX.out.1;obtain⟨_,_,_,hat11,_⟩:=H11.out.rd.cells)
        go_wp2_with fail;refine hK.out _ _ ?_ (fun hHeld13=>?_)
        ·exact Aw
        clear hK K
        try simp only [Act.put,N',Q',S']
        refine tk 14 ?_;try simp only [Act.put,ls]
        refine tk 15 ?_;try simp only [Act.put,ls]
        refine wpAnyH_done Ci ?_ _;go_wp2_with fail
        go_meet
        case rel=>exact⟨by rw [h1,h2,h3];rfl,HB11.out.1,HB11.out.2,F3⟩
      | false =>
       have d2:(E.word (m8:Nat)==[58,61])=false:=h2;refine wp_region_held_drew (S:=fun w'=>w'.cell? ⟨B,0,none⟩=some (.pointer (some ⟨c,0,none⟩))/\w'.cell? ⟨c,3,none⟩=some (.int .i64 (m8:Int))) Ci ?_ (fun hHeld=>?_)
       ·exact Aw
       refine tk 0 ?_;try simp only [Act.put,ls]
       refine tk 1 ?_;try simp only [Act.put,ls]
       refine tk 2 ?_;try simp only [Act.put,ls]
       refine tk 3 ?_;try simp only [Act.put,ls]
       refine tk 4 ?_;try simp only [Act.put,ls]
       refine tk 5 ?_;try simp only [Act.put,ls]
       refine tk 6 ?_;try simp only [Act.put,ls]
       refine ts 7 ?_;try simp only [Act.put,ls]
       refine ts 8 ?_;try simp only [Act.put,ls]
       refine ts 9 ?_;try simp only [Act.put,ls]
       refine ts 10 ?_;try simp only [Act.put,ls]
       refine ts 11 ?_;try simp only [Act.put,ls]
       refine ts 12 ?_;try simp only [Act.put,ls]
       refine ts 13 ?_;try simp only [Act.put,ls]
       refine ts 14 ?_;try simp only [Act.put,ls]
       refine tk 15 ?_;try simp only [Act.put,ls]
       refine wpAnyH_done Ci ?_ _;go_wp2_with fail
       go_meet
       case rel=>exact⟨by rw [h1,h2];rfl,HB10d.out.1,HB10d.out.2,by rw [HPH.out];exact H10d.out⟩
    case rest =>
     clear hat hsm hwr hφ hbxf H10 HB10;obtain⟨rfl,hb1,hb2,hph⟩:=hcut;have H11:=xU HPH hph;clear hph;simp only [Ao] at H11;have hcs:wc.cell? ⟨w5.heap.size,0,none⟩=some (.pointer (some ⟨p2,0,none⟩)):=by simp [World.cell?,hb1]
     have hcl:wc.cell? ⟨w8.heap.size,0,none⟩=some (.pointer (some ⟨ql,0,none⟩)):=by simp [World.cell?,hb2]
     cases hR:((E.is m8 [61]||E.is m8 [58,61])&&E.is (m8+1) [114,97,110,103,101]) with
     | true =>
      have HLT9:Hid (m8 < E.l.length):=by rw [Bool.and_eq_true] at hR;have:=gA hR.2;exact hid Cf
      simp only [hR,if_true] at H11;clear hR;have H12:=oX H148 H11;clear H11 H148;have H13:=gG (ps':=[ql]) (ts':=[ul]) H12 (fun _ h=>⟨h.2.1,trivial⟩);clear H12;obtain⟨_,_,_,hat12,_⟩:=H13.out.rd.cells;have hsm:((m8:Nat):Int)<=1099511627776:=Fw
      obtain⟨_,hk12,hf12,_,_⟩:=H13.out.ex.opn.blk.cells;have hfz1:=H13.out.ex.opn.blk.free 1;have hpne:w8.heap.size≠p:=by have h1:=HN8.out;have h2:=HQF.out.2.2;have h3:=HQF.out.1;omega
      have hcne:w8.heap.size≠c:=by have h1:=HN8.out;have h2:=H13.out.cw;have h3:=HQF.out;have h4:=H13.out.ex.opn.low;omega
      have hbx13:=H13.out.fr.cell (a:=⟨B,0,none⟩) Cg HX.out.1;have H14:=oD H13 (m8:Int);clear H13;have hbx14:=H14.out.fr.cell (a:=⟨B,0,none⟩) Cg HX.out.1;have hfz3:=H14.out.rd.free 3;obtain⟨_,_,_,hat13,_⟩:=H14.out.rd.cells;have H15:=ZA H14 HLT9;clear H14;obtain⟨n6,hm⟩:∃ m,m=m8+1:=⟨_,rfl⟩;simp only [<- hm] at H15;clear hm;have hcl2:=kH (N:=c) (j:=3) (x:=.int .i64 ((m8:Int)+1)) (a:=⟨w8.heap.size,0,none⟩) hcne (kH (N:=p) (j:=1) (x:=.int .i64 (m8:Int)) (a:=⟨w8.heap.size,0,none⟩) hpne hcl);have hbx15:=H15.out.fr.cell (a:=⟨B,0,none⟩) Cg HX.out.1;go_wp2_with fail;generalize ((wc.setCell ⟨p,1,none⟩ (.int .i64 (m8:Int))).setCell ⟨c,3,none⟩ (.int .i64 ((m8:Int)+1)))=w15 at *;refine cE H15 (fun hr=>HD.out.overall _ _ _ _ _ _ _ _ _ _ _ _ H15.out.rd H15.out.ex hr) (fun _ _ h=>⟨rfl,h.behind HFB.out⟩) ?_;intro q wz HA;clear H15;clear hat12 hk12 hf12 hfz1 hfz3 hat13 hcl hcl2 hbx13 hbx14 hbx15 hcs hb1 hb2;go_wp2_with fail;go_ret;exact HA.out.behind HFB.out
     | false =>
      simp only [hR,Bool.false_eq_true,if_false] at H11;clear hR;have HGR:=hid (H11.out.rd.guard HBC.out hb1);have HND:=hid (H11.out.ex.guard (o:=(.cells #[.pointer (some ⟨p2,0,none⟩)] 51)) (b:=w5.heap.size) (by have h1:=HQF.out.1;omega) Cz);have hbx12:=H11.out.fr.cell (a:=⟨B,0,none⟩) Cg HX.out.1;have HCC:=hid (And.intro hbx12 (And.intro hcs hcl));go_wp2_with fail;clear hbx12 hcs hcl;refine nX (Bn:=w5.heap.size) (o:=(.cells #[.pointer (some ⟨p2,0,none⟩)] 51)) H148 H11 (fun hr=>QO HGR.out 254 #[] #[.pointer (some ⟨B,0,none⟩),.pointer (some ⟨w5.heap.size,0,none⟩),.pointer (some ⟨w8.heap.size,0,none⟩)] (fun _=>cF Ci _ _) _ (fun q=>q=p2) w147 H11.out.ex.fr H11.out.ex.cw
       (fun wq hR hF=>LY (hF.cell (a:=⟨B,0,none⟩) Cg HCC.out.1) (hF.cell (a:=⟨w5.heap.size,0,none⟩) (by simpa using HBC.out) HCC.out.2.1) (hF.cell (a:=⟨w8.heap.size,0,none⟩) (by have h1:=HN8.out;have h2:=HGR.out.lt;have h3:=HQF.out;have h4:=H148.out.cw;have h5:=H148.out.fr.size;simp;omega) HCC.out.2.2) ((HGG.out (E.guard _ _) rfl).rest n8 ul c m8 true w147 wq p2 _ ql hR (Nd.later _ _ HND.out hF) hr))) (fun _ _ h=>⟨rfl,h.behind HFB.out⟩) ?_
      intro u9 n9 w13 HB13 HE13 H13;clear H148 H11 HGR HND HCC hb1 hb2;have HSH:=hid (HSO.out.t (.rest n8 ul) m8 true (HSO.out.t .exprs _ true trivial ul m8 HE8.out) u9 n9 HE13.out);clear HE13;have hb13:=HB13.out;have hcs13:w13.cell? ⟨w5.heap.size,0,none⟩=some (.pointer (some ⟨p2,0,none⟩)):=by simp [World.cell?,hb13]
      have hfz13:w13.frozen? ⟨w5.heap.size,0,none⟩=false:=by simp [World.frozen?,hb13]
      have hsame:=yV hb13;have hbx13:=H13.out.fr.cell (a:=⟨B,0,none⟩) Cg HX.out.1;have hbx14:=hsame.symm ▸ hbx13;go_wp2_with fail
      try rw [hsame]
      clear hsame hfz13 hcs13 hbx13 hbx14 hb13;refine fX H13 HB13 ?_;intro w14 HB14 H14;clear H13 HB13;have hb14:=HB14.out;have hcs14:w14.cell? ⟨w5.heap.size,0,none⟩=some (.pointer (some ⟨p2,0,none⟩)):=by simp [World.cell?,hb14]
      clear hb14;cases h9:E.is n9 [59] with
      | true =>
       have d9:(E.word (n9:Nat)==[59])=true:=h9;simp only [h9,bs,reduceCtorEq] at H14;clear h9;have H149:=gG (ps':=[p2]) (ts':=[u9]) H14 (fun _ h=>⟨h.2.1,trivial⟩);clear H14;have hbx150:=H149.out.fr.cell (a:=⟨B,0,none⟩) Cg HX.out.1;go_wp2_with fail;clear hbx150;refine FA H149 (fun _ _ h=>⟨rfl,h.behind HFB.out⟩) ?_;intro n152 w151 H153;clear H149;have hbx154:=H153.out.fr.cell (a:=⟨B,0,none⟩) Cg HX.out.1;go_wp2_with fail;clear hbx154;refine IA H153 0 ?_;intro q156 w155 H157;clear H153;have hbx158:=H157.out.fr.cell (a:=⟨B,0,none⟩) Cg HX.out.1;go_wp2_with fail;clear hbx158;cases h159:E.is n152 [59] with
       | true =>
        have d160:(E.word (n152:Nat)==[59])=true:=h159;simp only [h159,bs,reduceCtorEq] at H157;have HLTh159:=hid (gA h159);have HYh159:=hid h159;clear h159;refine cA H157 ?_;intro w161 H162;clear H157;have hbx163:=H162.out.fr.cell (a:=⟨B,0,none⟩) Cg HX.out.1;go_wp2_with fail;clear hbx163;refine FA H162 (fun _ _ h=>⟨rfl,h.behind HFB.out⟩) ?_;intro n165 w164 H166;clear H162;have hbx167:=H166.out.fr.cell (a:=⟨B,0,none⟩) Cg HX.out.1;go_wp2_with fail;clear hbx167;refine IA H166 0 ?_;intro q169 w168 H170;clear H166;have hbx171:=H170.out.fr.cell (a:=⟨B,0,none⟩) Cg HX.out.1;go_wp2_with fail;clear hbx171;cases h172:E.is n165 [123] with
        | true =>
         have d173:(E.word (n165:Nat)==[123])=true:=h172;simp only [h172,bs,reduceCtorEq] at H170;have HLTh172:=hid (gA h172);have HYh172:=hid h172;clear h172;refine cA H170 ?_;intro w174 H175;clear H170;have hbx176:=H175.out.fr.cell (a:=⟨B,0,none⟩) Cg HX.out.1;go_wp2_with fail;have H177:=yC H175;clear H175
         go_region_held (fun w'=>w'.cell? ⟨B,0,none⟩=some (.pointer (some ⟨c,0,none⟩))) (first|(first|assumption|exact aA ((J' _ _).alloc (C' _) _) ‹_›)) (first|(go_at_call 163;refine jA (F:=.block) H177 HD Ch ⟨rfl,rfl⟩ (fun _ _ h=>⟨rfl,h.behind HFB.out⟩) ?_;intro q180 t181 n179 w178 H182;clear H177;have hbx183:=H182.out.fr.cell (a:=⟨B,0,none⟩) Cg HX.out.1)|(go_at_call 113;refine (eA H182 Cm).mono ?_;rintro e wz ⟨rfl,HZ⟩;clear H182;have hbx184:=(Ans.fr HZ.out).cell (a:=⟨B,0,none⟩) Cg HX.out.1))
         go_wp2_with fail;go_ret;exact HZ.out.behind HFB.out
        | false =>
         have d173:(E.word (n165:Nat)==[123])=false:=h172;simp only [h172,bs,reduceCtorEq] at H170;clear h172;refine cA H170 ?_;intro w185 H186;clear H170;have H187:=pB H186;clear H186;have hbx188:=H187.out.fr.cell (a:=⟨B,0,none⟩) Cg HX.out.1;go_wp2_with fail;clear hbx188;refine TB H187 (fun hr=>SE H187.out.rd HD.out .simple Ch ⟨rfl,rfl⟩ Ci hr) (fun _ _ h=>⟨rfl,h.behind HFB.out⟩) ?_;intro q191 t192 n190 w189 H193;clear H187;have hbx194:=H193.out.fr.cell (a:=⟨B,0,none⟩) Cg HX.out.1;go_wp2_with fail;have H195:=yC H193;clear H193
         go_region_held (fun w'=>w'.cell? ⟨B,0,none⟩=some (.pointer (some ⟨c,0,none⟩))) (first|(first|assumption|exact aA ((J' _ _).alloc (C' _) _) ‹_›)) (first|(go_at_call 163;refine jA (F:=.block) H195 HD Ch ⟨rfl,rfl⟩ (fun _ _ h=>⟨rfl,h.behind HFB.out⟩) ?_;intro q198 t199 n197 w196 H200;clear H195;have hbx201:=H200.out.fr.cell (a:=⟨B,0,none⟩) Cg HX.out.1)|(go_at_call 113;refine (eA H200 Cm).mono ?_;rintro e wz ⟨rfl,HZ⟩;clear H200;have hbx202:=(Ans.fr HZ.out).cell (a:=⟨B,0,none⟩) Cg HX.out.1))
         go_wp2_with fail;go_ret;exact HZ.out.behind HFB.out
       | false =>
        have d160:(E.word (n152:Nat)==[59])=false:=h159;simp only [h159,bs,reduceCtorEq] at H157;clear h159;refine cA H157 ?_;intro w203 H204;clear H157;have H205:=pB H204;clear H204;have hbx206:=H205.out.fr.cell (a:=⟨B,0,none⟩) Cg HX.out.1;go_wp2_with fail;clear hbx206;refine TB H205 (fun hr=>SE H205.out.rd HD.out .expr Ch ⟨rfl,rfl⟩ Ci hr) (fun _ _ h=>⟨rfl,h.behind HFB.out⟩) ?_;intro q209 t210 n208 w207 H211;clear H205;have hbx212:=H211.out.fr.cell (a:=⟨B,0,none⟩) Cg HX.out.1;go_wp2_with fail;clear hbx212;refine FA H211 (fun _ _ h=>⟨rfl,h.behind HFB.out⟩) ?_;intro n214 w213 H215;clear H211;have hbx216:=H215.out.fr.cell (a:=⟨B,0,none⟩) Cg HX.out.1;go_wp2_with fail;clear hbx216;refine IA H215 0 ?_;intro q218 w217 H219;clear H215;have hbx220:=H219.out.fr.cell (a:=⟨B,0,none⟩) Cg HX.out.1;go_wp2_with fail;clear hbx220;cases h221:E.is n214 [123] with
        | true =>
         have d222:(E.word (n214:Nat)==[123])=true:=h221;simp only [h221,bs,reduceCtorEq] at H219;have HLTh221:=hid (gA h221);have HYh221:=hid h221;clear h221;refine cA H219 ?_;intro w223 H224;clear H219;have hbx225:=H224.out.fr.cell (a:=⟨B,0,none⟩) Cg HX.out.1;go_wp2_with fail;have H226:=yC H224;clear H224
         go_region_held (fun w'=>w'.cell? ⟨B,0,none⟩=some (.pointer (some ⟨c,0,none⟩))) (first|(first|assumption|exact aA ((J' _ _).alloc (C' _) _) ‹_›)) (first|(go_at_call 163;refine jA (F:=.block) H226 HD Ch ⟨rfl,rfl⟩ (fun _ _ h=>⟨rfl,h.behind HFB.out⟩) ?_;intro q229 t230 n228 w227 H231;clear H226;have hbx232:=H231.out.fr.cell (a:=⟨B,0,none⟩) Cg HX.out.1)|(go_at_call 113;refine (eA H231 Cm).mono ?_;rintro e wz ⟨rfl,HZ⟩;clear H231;have hbx233:=(Ans.fr HZ.out).cell (a:=⟨B,0,none⟩) Cg HX.out.1))
         go_wp2_with fail;go_ret;exact HZ.out.behind HFB.out
        | false =>
         have d222:(E.word (n214:Nat)==[123])=false:=h221;simp only [h221,bs,reduceCtorEq] at H219;clear h221;refine cA H219 ?_;intro w234 H235;clear H219;have H236:=pB H235;clear H235;have hbx237:=H236.out.fr.cell (a:=⟨B,0,none⟩) Cg HX.out.1;go_wp2_with fail;clear hbx237;refine TB H236 (fun hr=>SE H236.out.rd HD.out .simple Ch ⟨rfl,rfl⟩ Ci hr) (fun _ _ h=>⟨rfl,h.behind HFB.out⟩) ?_;intro q240 t241 n239 w238 H242;clear H236;have hbx243:=H242.out.fr.cell (a:=⟨B,0,none⟩) Cg HX.out.1;go_wp2_with fail;have H244:=yC H242;clear H242
         go_region_held (fun w'=>w'.cell? ⟨B,0,none⟩=some (.pointer (some ⟨c,0,none⟩))) (first|(first|assumption|exact aA ((J' _ _).alloc (C' _) _) ‹_›)) (first|(go_at_call 163;refine jA (F:=.block) H244 HD Ch ⟨rfl,rfl⟩ (fun _ _ h=>⟨rfl,h.behind HFB.out⟩) ?_;intro q247 t248 n246 w245 H249;clear H244;have hbx250:=H249.out.fr.cell (a:=⟨B,0,none⟩) Cg HX.out.1)|(go_at_call 113;refine (eA H249 Cm).mono ?_;rintro e wz ⟨rfl,HZ⟩;clear H249;have hbx251:=(Ans.fr HZ.out).cell (a:=⟨B,0,none⟩) Cg HX.out.1))
         go_wp2_with fail;go_ret;exact HZ.out.behind HFB.out
      | false =>
       have d9:(E.word (n9:Nat)==[59])=false:=h9;simp only [h9,bs,reduceCtorEq] at H14;clear h9;have hbx252:=H14.out.fr.cell (a:=⟨B,0,none⟩) Cg HX.out.1;go_wp2_with fail;clear hbx252;refine WL H14 H14.out.ex.kids.2.1 HSH (fun _ _ h=>⟨rfl,h.behind HFB.out⟩) ?_;intro q255 t256 n254 w253 H257;clear H14;have hbx258:=H257.out.fr.cell (a:=⟨B,0,none⟩) Cg HX.out.1;go_wp2_with fail;clear hbx258;refine IA H257 0 ?_;intro q260 w259 H261;clear H257;have H262:=gG (ps':=[_,q255,q260]) (ts':=[_,t256,vA 0 n254]) H261 (fun _ h=>⟨h.1,h.2.2.1,h.2.2.2.1,trivial⟩);clear H261;have hbx263:=H262.out.fr.cell (a:=⟨B,0,none⟩) Cg HX.out.1;go_wp2_with fail;have H264:=yC H262;clear H262
       go_region_held (fun w'=>w'.cell? ⟨B,0,none⟩=some (.pointer (some ⟨c,0,none⟩))) (first|(first|assumption|exact aA ((J' _ _).alloc (C' _) _) ‹_›)) (first|(go_at_call 163;refine jA (F:=.block) H264 HD Ch ⟨rfl,rfl⟩ (fun _ _ h=>⟨rfl,h.behind HFB.out⟩) ?_;intro q267 t268 n266 w265 H269;clear H264;have hbx270:=H269.out.fr.cell (a:=⟨B,0,none⟩) Cg HX.out.1)|(go_at_call 113;refine (eA H269 Cm).mono ?_;rintro e wz ⟨rfl,HZ⟩;clear H269;have hbx271:=(Ans.fr HZ.out).cell (a:=⟨B,0,none⟩) Cg HX.out.1))
       go_wp2_with fail;go_ret;exact HZ.out.behind HFB.out
end
