import Derived.Test.YtfmpphplbdojbaaGreatDoorQAT
import Derived.Test.YtfmpphplbdojbaaGreatDoorQAX
namespace Go.Proofs.YtfmpphplbdojbaaGreatDoor
open Lib(hid)
set_option linter.all false
set_option maxHeartbeats 40000000
set_option maxRecDepth 100000
section
open Go.RowKit
variable {E:Ev}{S:AB}{c n k:Nat}{g:Bool}{w w0 w1 w2:World}{v:Value}{ps:List Nat}{ts:List Tr}{rs:List Nat}{us:List Tr}{T X:R Tr}
theorem ZN {kd:UInt8}{sort:Nat} (H:∀ j,j≤k→aB E (kA E.toEnv j)) (hkk:k≤1000000000000) (hs:sort=1∨sort=2∨sort=3) (h:Rd E c n g w) (hr:rD E.toEnv (kA E.toEnv k) kd sort n≠.out) :
  Calls Tryz.prog 250 #[.pointer (some ⟨c,0,none⟩),.int .u8 (kd.toNat:Int),.func (.func (xD (.cased sort))) #[.pointer (some ⟨c,0,none⟩)] #[]] w (Ans E c g (rD E.toEnv (kA E.toEnv k) kd sort n) w):=by
 have hcf:∀ w1,Sem.run Tryz.prog (callFunc (xD (.cased sort)) (#[.pointer (some ⟨c,0,none⟩)]++#[])) w1=.ok (.enter (xD (.cased sort)) (#[.pointer (some ⟨c,0,none⟩)]++#[])) w1:=by
  rcases hs with rfl|rfl|rfl <;> exact fun _=>cF (by kernel_rfl) _ _
 have hC:∀ j,j≤k→∀ n1 w1,Rd E c n1 false w1→(kA E.toEnv j).t (.cased sort) n1 false≠.out→Calls Tryz.prog (xD (.cased sort)) (#[.pointer (some ⟨c,0,none⟩)]++#[]) w1 (Ans E c false ((kA E.toEnv j).t (.cased sort) n1 false) w1) :=
  fun j hj n1 w1 hR hr=>(H j hj).t (.cased sort) c n1 false w1 (by rcases hs with rfl|rfl|rfl <;> decide) (DA (by rfl) hR.at_ (by rfl)) hR hr
 have HA:=hid H;clear H;have HCF:=hid hcf;clear hcf;have HC:=hid hC;clear hC;generalize xD (.cased sort)=f at *;have b1:=nE w (.pointer (some ⟨c,0,none⟩)) 54;have b2:=nE (w.alloc (.cells #[.pointer (some ⟨c,0,none⟩)] 54)) (.int .u8 (kd.toNat:Int)) 5;have b3:=nE ((w.alloc (.cells #[.pointer (some ⟨c,0,none⟩)] 54)).alloc (.cells #[.int .u8 (kd.toNat:Int)] 5)) (.func (.func f) #[.pointer (some ⟨c,0,none⟩)] #[]) 112;have e1:=aA ((Below.refl _ _).alloc (Nat.le_refl _) (.cells #[.func (.func f) #[.pointer (some ⟨c,0,none⟩)] #[]] 112)) (aA ((Below.refl _ _).alloc (Nat.le_refl _) (.cells #[.int .u8 (kd.toNat:Int)] 5)) b1);have e2:=aA ((Below.refl _ _).alloc (Nat.le_refl _) (.cells #[.func (.func f) #[.pointer (some ⟨c,0,none⟩)] #[]] 112)) b2;have H0:=FF (FF (FF (Sx.start h hr rfl) (.cells #[.pointer (some ⟨c,0,none⟩)] 54)) (.cells #[.int .u8 (kd.toNat:Int)] 5)) (.cells #[.func (.func f) #[.pointer (some ⟨c,0,none⟩)] #[]] 112);simp only [World.size_alloc] at e1 e2 b3;have HX:=hid (And.intro (And.intro e1 (And.intro e2 b3)) h.lt);clear b1 b2 b3 e1 e2 h hr hs;go_enter Tryz.func250,Tryz.ntmps250;obtain⟨⟨hb1,hb2,hb3⟩,_⟩:=HX.out;go_wp2_with fail;clear hb1 hb2 hb3;refine pG H0 (fun hr=>nS H0.out.rd 264 #[.pointer (some ⟨w.heap.size,0,none⟩),.pointer (some ⟨w.heap.size+1,0,none⟩),.pointer (some ⟨w.heap.size+1+1,0,none⟩)] (fun _=>cF (by kernel_rfl) _ _)
  (fun w1 hR hF=>vM HA.out hkk hR HCF.out HC.out ⟨⟨hF.cell (a:=⟨w.heap.size,0,none⟩) (by have:=HX.out.2;simp;omega) HX.out.1.1,hF.cell (a:=⟨w.heap.size+1,0,none⟩) (by have:=HX.out.2;simp;omega) HX.out.1.2.1,hF.cell (a:=⟨w.heap.size+1+1,0,none⟩) (by have:=HX.out.2;simp;omega) HX.out.1.2.2⟩,by have:=HX.out.2;omega,by have:=HX.out.2;omega,by have:=HX.out.2;omega⟩ hr)) (fun _ _ h=>⟨rfl,h⟩) ?_
 intro q wz HA;clear H0;go_wp2_with fail;go_ret;exact HA.out
end
section
open Go.RowKit
variable {E:Ev}{S:AB}{c n:Nat}{g:Bool}{w:World}
variable {k:Nat}{w0 w1 w2:World}{p:Nat}{kd:UInt8}{wd:Int}{f t:Nat}{kv v:Value}{ps0:List Nat}{ts0:List Tr}{ps:List Nat}{ts:List Tr}{rs:List Nat}{us:List Tr}{T X:R Tr}
theorem DL {fn:FuncId}{args:Array Value}{r:R Tr}{K:Tr→Nat→R Tr}{Q:Ending→World→Prop} (h:Hid (Sx E c n g w0 (Nd E c w1 p kd wd f t kv ps0 ts0 ps ts) T (r.andThen K) w)) (hC:r≠.out→Calls Tryz.prog fn args w (Ans E c g r w))
  (hB:∀ k w',Ans E c g T w0 (Up k) w'→Q (Up k) w')
  (hQ:∀ q u n' w',Hid (r=.ok u n')→Hid (Sx E c n' g w0 (Nd E c w1 p kd wd f t kv ps0 ts0 (ps++[q]) (ts++[u])) T (K u n') w')→Q (.returned (.pointer (some ⟨q,0,none⟩))) w'):Calls Tryz.prog fn args w Q:=by
 refine (hC (fun e=>h.out.ne (by rw [h.out.eq,e];rfl))).mono ?_;intro e w' hA;have hh:=h.out;cases r with
 | out=>exact hA.elim
 | bad m=>obtain⟨rfl,q1,q2⟩:=hA;exact hB m w' (hh.bad rfl q1 q2)
 | ok u m=>obtain⟨q,rfl,q1,q2,q3⟩:=hA;exact hQ q u m w' rfl ((hh.step q3 q1 rfl).with (hh.ex.kid q3 q2) Nd.later)
theorem xX {u:Tr}{n m:Nat} (h:only u n=.bad m):m=n:=by
 unfold only at h;split at h
 ·split at h <;> cases h;rfl
 ·cases h;rfl
theorem uW {u x:Tr}{n m:Nat} (h:only u n=.ok x m):m=n:=by
 unfold only at h;split at h
 ·split at h <;> cases h;rfl
 ·cases h
theorem WL {q:Nat}{u:Tr}{K:Tr→Nat→R Tr}{Q:Ending→World→Prop} (h:Hid (Sx E c n g w0 (Nd E c w1 p kd wd f t kv ps0 ts0 ps ts) T ((only u n).andThen K) w)) (ht:nA w (ndD w1 p kv w) q u) (hs:Hid (Sh u))
  (hB:∀ k w',Ans E c g T w0 (Up k) w'→Q (Up k) w')
  (hQ:∀ px x n' w',Hid (Sx E c n' g w0 (Nd E c w1 p kd wd f t kv ps0 ts0 (ps++[px]) (ts++[x])) T (K x n') w')→Q (.returned (.pointer (some ⟨px,0,none⟩))) w') :
  Calls Tryz.prog 249 #[.pointer (some ⟨c,0,none⟩),.pointer (some ⟨q,0,none⟩)] w Q:=by
 refine (fW h.out.rd ht hs.out).mono ?_;intro e w' hA;have hh:=h.out;cases ho:only u n with
 | out=>exact absurd (by rw [hh.eq,ho];rfl) hh.ne
 | bad m =>
  rw [ho] at hA hh;obtain⟨rfl,rfl⟩:=hA;have:=xX ho;subst this;exact hB m w (hh.bad rfl ⟨g,hh.rd⟩ (Fr.refl _ _))
 | ok x m =>
  rw [ho] at hA hh;obtain⟨px,rfl,hx,rfl⟩:=hA;have:=uW ho;subst this;exact hQ px x m w (hh.with ⟨hh.ex.fr,hh.ex.cw,hh.ex.opn,hh.ex.old,fA.append hh.ex.kids ⟨hx,trivial⟩,hh.ex.z⟩ Nd.later)
theorem EV (H:aB E S) (hso:SOk E.toEnv S) (h:Rd E c n g w) (hn:n < E.l.length) (hr:XI E.toEnv S n g≠.out) :
  Calls Tryz.prog 223 #[.pointer (some ⟨c,0,none⟩)] w (Ans E c g (XI E.toEnv S n g) w):=by
 have HLT:=hid hn;clear hn;have HD:=hid H;clear H;have H0:=Sx.start h hr rfl
 conv at H0=>arg 1;arg 8;unfold XI SD
 try simp only [bs,reduceCtorEq] at H0
 have HSO:=hid hso;clear hso;clear h hr;go_enter Tryz.func223,Tryz.ntmps223;go_wp2_with fail;refine yB H0 59 ?_;intro p w1 H2;clear H0;obtain⟨_,_,_,hat5,_⟩:=H2.out.rd.cells;have hsm6:((n:Nat):Int)≤1099511627776:=by have:=H2.out.rd.at_;have:=H2.out.rd.lie.small;omega
 have hfz4:=H2.out.rd.free 3;have H3:=ZA H2 HLT;clear H2;obtain⟨n7,hm⟩:∃ m,m=n+1:=⟨_,rfl⟩;simp only [← hm] at H3;have HMn7:=hid hm;clear hm;go_wp2_with fail;generalize (w1.setCell ⟨c,3,none⟩ (.int .i64 (((n:Nat):Int)+1)))=w8 at *;clear hat5 hsm6 hfz4
 try simp only [show (((n:Nat):Int)+1)=((n7:Nat):Int) from by have:=HMn7.out;omega] at H3
 refine IA H3 0 ?_;intro q10 w9 H11;clear H3;go_wp2_with fail;cases h12:E.is n7 [59] with
 | true =>
  have d13:(E.word (n7:Nat)==[59])=true:=h12;simp only [h12,bs,reduceCtorEq] at H11;have HLTh12:=hid (gA h12);have HYh12:=hid h12;clear h12;refine cA H11 ?_;intro w14 H15;clear H11;go_wp2_with fail;refine IJ H15 HYh12 ?_;intro n16 w18 hm H17;clear H15
  try simp only [← hm] at H17
  have HMn16:=hid hm;clear hm;simp only [show n+2=n16 from by have:=HMn7.out;have:=HMn16.out;omega] at H17;go_wp2_with fail;refine TB H17 (fun hr=>SE H17.out.rd HD.out .expr (by decide) ⟨rfl,rfl⟩ (by kernel_rfl) hr) (fun _ _ h=>⟨rfl,h⟩) ?_;intro q21 t22 n20 w19 H23;clear H17;go_wp2_with fail;refine jA (F:=.block) H23 HD (by decide) ⟨rfl,rfl⟩ (fun _ _ h=>⟨rfl,h⟩) ?_;intro q26 t27 n25 w24 H28;clear H23;go_wp2_with fail;cases h29:E.is n25 [101,108,115,101] with
  | true =>
   simp only [h29,bs,reduceCtorEq] at H28;refine vE H28 h29 ?_;intro n31 w30 hm H32;clear H28;simp only [← hm] at H32;have HMn31:=hid hm;clear hm;have HYh29:=hid h29;clear h29;go_wp2_with fail;cases h33:E.is n31 [105,102] with
   | true =>
    have d34:(E.word (n31:Nat)==[105,102])=true:=h33;simp only [h33,bs,reduceCtorEq] at H32;have HLTh33:=hid (gA h33);have HYh33:=hid h33;clear h33;refine cA H32 ?_;intro w35 H36;clear H32;go_wp2_with fail;refine qI (F:=.ifs) H36 HD (by decide) rfl HLTh33 (fun _ _ h=>⟨rfl,h⟩) ?_;intro q39 t40 n38 w37 H41;clear H36;go_wp2_with fail;refine (eA H41 (by simp)).mono ?_;rintro e wz ⟨rfl,HA⟩;clear H41;go_wp2_with fail;go_ret;exact HA.out
   | false =>
    have d34:(E.word (n31:Nat)==[105,102])=false:=h33;simp only [h33,bs,reduceCtorEq] at H32;clear h33;refine cA H32 ?_;intro w42 H43;clear H32;go_wp2_with fail;refine jA (F:=.block) H43 HD (by decide) ⟨rfl,rfl⟩ (fun _ _ h=>⟨rfl,h⟩) ?_;intro q46 t47 n45 w44 H48;clear H43;go_wp2_with fail;refine (eA H48 (by simp)).mono ?_;rintro e wz ⟨rfl,HA⟩;clear H48;go_wp2_with fail;go_ret;exact HA.out
  | false =>
   simp only [h29,bs,reduceCtorEq] at H28;refine gH H28 h29 ?_;intro w49 H50;clear H28;clear h29;go_wp2_with fail;refine IA H50 0 ?_;intro q52 w51 H53;clear H50;go_wp2_with fail;refine (eA H53 (by simp)).mono ?_;rintro e wz ⟨rfl,HA⟩;clear H53;go_wp2_with fail;go_ret;exact HA.out
 | false =>
  have d13:(E.word (n7:Nat)==[59])=false:=h12;simp only [h12,bs,reduceCtorEq] at H11;clear h12;refine cA H11 ?_;intro w54 H55;clear H11;go_wp2_with fail;refine DL H55 (fun hr=>SE H55.out.rd HD.out .simple (by decide) ⟨rfl,rfl⟩ (by kernel_rfl) hr) (fun _ _ h=>⟨rfl,h⟩) ?_;intro q58 t59 n57 w56 HE61 H60;clear H55;have HS62:=hid (HSO.out.t .simple _ true trivial _ _ HE61.out);clear HE61;go_wp2_with fail;cases h63:E.is n57 [59] with
  | true =>
   have d64:(E.word (n57:Nat)==[59])=true:=h63;simp only [h63,bs,reduceCtorEq] at H60;have HLTh63:=hid (gA h63);have HYh63:=hid h63;clear h63;refine cA H60 ?_;intro w65 H66;clear H60;go_wp2_with fail;refine IJ H66 HYh63 ?_;intro n67 w69 hm H68;clear H66
   try simp only [← hm] at H68
   have HMn67:=hid hm;clear hm;go_wp2_with fail;refine TB H68 (fun hr=>SE H68.out.rd HD.out .expr (by decide) ⟨rfl,rfl⟩ (by kernel_rfl) hr) (fun _ _ h=>⟨rfl,h⟩) ?_;intro q72 t73 n71 w70 H74;clear H68;have H75:=gG (ps':=[q58,q72]) (ts':=[t59,t73]) H74 (fun _ h=>⟨h.2.1,h.2.2.1,trivial⟩);clear H74;go_wp2_with fail;refine jA (F:=.block) H75 HD (by decide) ⟨rfl,rfl⟩ (fun _ _ h=>⟨rfl,h⟩) ?_;intro q78 t79 n77 w76 H80;clear H75;go_wp2_with fail;cases h81:E.is n77 [101,108,115,101] with
   | true =>
    simp only [h81,bs,reduceCtorEq] at H80;refine vE H80 h81 ?_;intro n83 w82 hm H84;clear H80;simp only [← hm] at H84;have HMn83:=hid hm;clear hm;have HYh81:=hid h81;clear h81;go_wp2_with fail;cases h85:E.is n83 [105,102] with
    | true =>
     have d86:(E.word (n83:Nat)==[105,102])=true:=h85;simp only [h85,bs,reduceCtorEq] at H84;have HLTh85:=hid (gA h85);have HYh85:=hid h85;clear h85;refine cA H84 ?_;intro w87 H88;clear H84;go_wp2_with fail;refine qI (F:=.ifs) H88 HD (by decide) rfl HLTh85 (fun _ _ h=>⟨rfl,h⟩) ?_;intro q91 t92 n90 w89 H93;clear H88;go_wp2_with fail;refine (eA H93 (by simp)).mono ?_;rintro e wz ⟨rfl,HA⟩;clear H93;go_wp2_with fail;go_ret;exact HA.out
    | false =>
     have d86:(E.word (n83:Nat)==[105,102])=false:=h85;simp only [h85,bs,reduceCtorEq] at H84;clear h85;refine cA H84 ?_;intro w94 H95;clear H84;go_wp2_with fail;refine jA (F:=.block) H95 HD (by decide) ⟨rfl,rfl⟩ (fun _ _ h=>⟨rfl,h⟩) ?_;intro q98 t99 n97 w96 H100;clear H95;go_wp2_with fail;refine (eA H100 (by simp)).mono ?_;rintro e wz ⟨rfl,HA⟩;clear H100;go_wp2_with fail;go_ret;exact HA.out
   | false =>
    simp only [h81,bs,reduceCtorEq] at H80;refine gH H80 h81 ?_;intro w101 H102;clear H80;clear h81;go_wp2_with fail;refine IA H102 0 ?_;intro q104 w103 H105;clear H102;go_wp2_with fail;refine (eA H105 (by simp)).mono ?_;rintro e wz ⟨rfl,HA⟩;clear H105;go_wp2_with fail;go_ret;exact HA.out
  | false =>
   have d64:(E.word (n57:Nat)==[59])=false:=h63;simp only [h63,bs,reduceCtorEq] at H60;clear h63;refine cA H60 ?_;intro w106 H107;clear H60;go_wp2_with fail;refine WL H107 H107.out.ex.kids.2.1 HS62 (fun _ _ h=>⟨rfl,h⟩) ?_;intro q110 t111 n109 w108 H112;clear H107;have H113:=gG (ps':=[q10,q110]) (ts':=[vA 0 n7,t111]) H112 (fun _ h=>⟨h.1,h.2.2.1,trivial⟩);clear H112;go_wp2_with fail;refine jA (F:=.block) H113 HD (by decide) ⟨rfl,rfl⟩ (fun _ _ h=>⟨rfl,h⟩) ?_;intro q116 t117 n115 w114 H118;clear H113;go_wp2_with fail;cases h119:E.is n115 [101,108,115,101] with
   | true =>
    simp only [h119,bs,reduceCtorEq] at H118;refine vE H118 h119 ?_;intro n121 w120 hm H122;clear H118;simp only [← hm] at H122;have HMn121:=hid hm;clear hm;have HYh119:=hid h119;clear h119;go_wp2_with fail;cases h123:E.is n121 [105,102] with
    | true =>
     have d124:(E.word (n121:Nat)==[105,102])=true:=h123;simp only [h123,bs,reduceCtorEq] at H122;have HLTh123:=hid (gA h123);have HYh123:=hid h123;clear h123;refine cA H122 ?_;intro w125 H126;clear H122;go_wp2_with fail;refine qI (F:=.ifs) H126 HD (by decide) rfl HLTh123 (fun _ _ h=>⟨rfl,h⟩) ?_;intro q129 t130 n128 w127 H131;clear H126;go_wp2_with fail;refine (eA H131 (by simp)).mono ?_;rintro e wz ⟨rfl,HA⟩;clear H131;go_wp2_with fail;go_ret;exact HA.out
    | false =>
     have d124:(E.word (n121:Nat)==[105,102])=false:=h123;simp only [h123,bs,reduceCtorEq] at H122;clear h123;refine cA H122 ?_;intro w132 H133;clear H122;go_wp2_with fail;refine jA (F:=.block) H133 HD (by decide) ⟨rfl,rfl⟩ (fun _ _ h=>⟨rfl,h⟩) ?_;intro q136 t137 n135 w134 H138;clear H133;go_wp2_with fail;refine (eA H138 (by simp)).mono ?_;rintro e wz ⟨rfl,HA⟩;clear H138;go_wp2_with fail;go_ret;exact HA.out
   | false =>
    simp only [h119,bs,reduceCtorEq] at H118;refine gH H118 h119 ?_;intro w139 H140;clear H118;clear h119;go_wp2_with fail;refine IA H140 0 ?_;intro q142 w141 H143;clear H140;go_wp2_with fail;refine (eA H143 (by simp)).mono ?_;rintro e wz ⟨rfl,HA⟩;clear H143;go_wp2_with fail;go_ret;exact HA.out
end
end Go.Proofs.YtfmpphplbdojbaaGreatDoor
