import Derived.Test.YtjdllofmhglmiaaGreatDoorQBI
namespace Go.Proofs.YtjdllofmhglmiaaGreatDoor
open Lib(hid)
set_option linter.all false
set_option maxHeartbeats 40000000
set_option maxRecDepth 100000
section
open Go.RowKit
variable {E:Ev}{S:AB}{c n:Nat}{g:Bool}{w:World}
set_option maxRecDepth 100000
set_option maxHeartbeats 40000000
section
variable {k:Nat}
theorem tS (h:Rd E c n g w) (f:FuncId) (hcf:Tryz.prog.funcs[f]?.map (fun f=>(f.name== "runtime.NumGoroutine",f.body.isNone))=some (false,false)) {r:R Tr}
  (H:∀ w1,Rd E c n false w1->Fr [c] w w1->Calls Tryz.prog f #[p8 c] w1 (Ans E c false r w1)) :
  Calls Tryz.prog 69 #[p8 c,.func (.func f) #[p8 c] #[]] w (Ans E c g r w) :=
 (GG h f #[p8 c] #[] (fun _=>cF hcf _ _) r (fun _=>True) w (Fr.refl _ _) h.lt (fun w1 hR hF=>(H w1 hR hF).mono (fun e w' hA=>⟨fun _ _=>trivial,hA.behind hF⟩))).mono (fun e w' hA=>hA.2)
theorem OQ (H:∀ j,j<=k->aB E (spec E.toEnv j)) (hkk:k<=1099511627776) (h:Rd E c n g w) (hn:n < E.l.length) (hr:CE E.toEnv (spec E.toEnv k) n g≠.out) :
  Calls Tryz.prog 77 #[p8 c] w (Ans E c g (CE E.toEnv (spec E.toEnv k) n g) w):=by
 have L:=hid hn;clear hn;have HA:=hid H;have HD:=hid (H k (C' _));clear H;have H:=Sx.start h hr rfl
 conv at H=>arg 1;arg 8;unfold CE EN
 try simp only [bs,reduceCtorEq] at H
 have KO:Kd 3 3:=rfl;have K1:Kd 4 4:=rfl;clear h hr
 go_in
 exact dr
theorem wd_ {E:Env}{n:Nat}{ws:List UInt8}{b:Bool} (h:E.is n ws=b):(E.word (n:Int)==ws)=b:=h
theorem YN {m:Nat} (H:aB E S) (h:Rd E c m false w) (hr:tI E.toEnv S m≠.out) :
  Calls Tryz.prog 70 #[p8 c] w (Ans E c false (tI E.toEnv S m) w):=by
 have HD:=hid H;clear H;have H0:=Sx.start h hr rfl
 conv at H0=>arg 1;arg 8;unfold tI wrapT
 try simp only [reduceCtorEq,bs] at H0
 clear h hr
 go_in
 go_wp2_with fail;refine yB H0 0 ?_;intro p w H;clear H0;obtain⟨_,_,_,hat4,_⟩:=H.out.rd.cells;have hsm5:((m:Nat):Int)<=1099511627776:=by have:=H.out.rd.at_;have:=H.out.rd.lie.small;omega
 go_wp2_with fail;clear hat4 hsm5;cases h:E.named ((m:Nat):Int) with
 | true =>
  simp only [h,bs,reduceCtorEq] at H;refine RB H _ true h ?_;clear h;intro w H;exact dr
 | false =>
 simp only [h,bs,reduceCtorEq] at H;refine RB H _ false h ?_;clear h;intro w H;go_wp2_with fail;cases h:E.is m [42] with
 | true =>
  have d:=wd_ h;simp only [h,bs,reduceCtorEq] at H;have L:=hid (gA h);have K1:Kd 35 35:=rfl;exact zem
 | false =>
 have d3542:=wd_ h;simp only [h,bs,reduceCtorEq] at H;clear h;cases h:E.is m [40] with
 | true =>
  have d:=wd_ h;simp only [h,bs,reduceCtorEq] at H;have L:=hid (gA h);have K1:Kd 28 28:=rfl;exact zem
 | false =>
 have d2840:=wd_ h;simp only [h,bs,reduceCtorEq] at H;clear h;cases h:E.is m [91] with
 | true =>
  have d:=wd_ h;simp only [h,bs,reduceCtorEq] at H;have L:=hid (gA h);exact zem
 | false =>
 have d091:=wd_ h;simp only [h,bs,reduceCtorEq] at H;clear h;cases h:E.is m [109,97,112] with
 | true =>
  have d57:(E.word (m:Nat)==[109,97,112])=true:=h;simp only [h,reduceCtorEq,bs] at H;have HLTh:=hid (gA h);have HYh:=hid h;clear h;refine cA H ?_;intro w58 H59;clear H;obtain⟨_,_,_,hat62,_⟩:=H59.out.rd.cells;have hsm63:((m:Nat):Int)<=1099511627776:=by have:=H59.out.rd.at_;have:=H59.out.rd.lie.small;omega
  have hfz61:=H59.out.rd.free 3;have H60:=ZA H59 HLTh;clear H59;obtain⟨n64,hm⟩:∃ m2,m2=m+1:=⟨_,rfl⟩;simp only [<- hm] at H60;have HMn64:=hid hm;clear hm;obtain⟨hk67,_,hf68,_,_⟩:=H60.out.ex.opn.blk.cells;have hfz66:=H60.out.ex.opn.blk.free 0;have H65:Hid (Sx _ _ _ _ _ _ _ _ ((w58.setCell (y8 c 3) (i8 (((m:Nat):Int)+1))).setCell (y8 p 0) (.int .u8 44))):=dB H60 44;clear H60;go_wp2_with fail;generalize ((w58.setCell (y8 c 3) (i8 (((m:Nat):Int)+1))).setCell (y8 p 0) (.int .u8 44))=w69 at *;clear hat62 hsm63 hfz61 hfz66 hk67 hf68
  try simp only [show (((m:Nat):Int)+1)=((n64:Nat):Int) from by have:=HMn64.out;omega] at H65
  refine FA H65 (fun _ _ h=>⟨rfl,h⟩) ?_;intro n71 w70 H72;clear H65;go_wp2_with fail;refine jA (F:=.typ) H72 HD Ct ⟨rfl,rfl⟩ (fun _ _ h=>⟨rfl,h⟩) ?_;intro q75 t76 n74 w73 H77;clear H72;go_wp2_with fail;refine FA H77 (fun _ _ h=>⟨rfl,h⟩) ?_;intro n79 w78 H80;clear H77;obtain⟨_,_,_,_,hk81⟩:=H80.out.ex.opn.blk.cells;have hfz82:=H80.out.ex.opn.blk.free 4;go_wp2_with (at_builtin;refine nY rfl _ _ rfl H80 (C' _) rfl rfl Cu ?_);intro v83 w84 H85;clear H80 hk81 hfz82;obtain⟨va9,vc9,rfl⟩:=xB H85.out.ex.own;obtain⟨kv9,hb9⟩:=H85.out.ex.blk;have hfz88:=hb9.free 4;obtain⟨_,_,_,_,hk87⟩:=hb9.cells;have H86:=VL H85;clear H85;go_wp2_with fail;clear hfz88 hk87 hb9;refine cE H86 (fun hr=>ZE HD.out H86.out.rd H86.out.ex Cu (fun e=>hr Eu)) (fun _ _ h=>⟨rfl,h⟩) ?_;intro q wz HA;clear H86;exact zcn
 | false =>
 have dmap:=wd_ h;simp only [h,bs,reduceCtorEq] at H;clear h;cases h:E.is m [99,104,97,110] with
 | true =>
  have d:=wd_ h;simp only [h,bs,reduceCtorEq] at H;have L:=hid (gA h);have K1:Kd 45 45:=rfl;have MG:=trivial;exact zem
 | false =>
 have dchan:=wd_ h;simp only [h,bs,reduceCtorEq] at H;clear h;cases h:E.is m [60,45] with
 | true =>
  have d:=wd_ h;simp only [h,bs,reduceCtorEq] at H;have L:=hid (gA h);have K1:Kd 45 45:=rfl;exact zem
 | false =>
 have d4560:=wd_ h;simp only [h,bs,reduceCtorEq] at H;clear h;cases h:E.is m [102,117,110,99] with
 | true =>
  have d:=wd_ h;simp only [h,bs,reduceCtorEq] at H;have L:=hid (gA h);have K1:Kd 46 46:=rfl;exact zem
 | false =>
 have dfunc:=wd_ h;simp only [h,bs,reduceCtorEq] at H;clear h;cases h:E.is m [115,116,114,117,99,116] with
 | true =>
  have d:=wd_ h;simp only [h,bs,reduceCtorEq] at H;have L:=hid (gA h);have K1:Kd 47 47:=rfl;have MF:=trivial;exact zem
 | false =>
 have dstruct:=wd_ h;simp only [h,bs,reduceCtorEq] at H;clear h;cases h:E.is m [105,110,116,101,114,102,97,99,101] with
 | true =>
  have d:=wd_ h;simp only [h,bs,reduceCtorEq] at H;have L:=hid (gA h);have K1:Kd 48 48:=rfl;exact zem
 | false =>
 have dinterface:=wd_ h;simp only [h,bs,reduceCtorEq] at H;clear h;exact dc
theorem uV (H:aB E S) (h:Rd E c n g w) (hr:tI E.toEnv S n≠.out) :
  Calls Tryz.prog 39 #[p8 c] w (Ans E c g (tI E.toEnv S n) w):=by
 have HD:=hid H;clear H;have H0:=Sx.start h hr rfl
 skip
 try simp only [reduceCtorEq,bs] at H0
 clear h hr
 go_in
 go_wp2_with fail;refine pG H0 (fun hr=>tS H0.out.rd 70 Cw (fun w1 hR hF=>YN HD.out hR hr)) (fun _ _ h=>⟨rfl,h⟩) ?_;intro q wz HA;clear H0;go_wp2_with fail;go_ret;exact HA.out
theorem WQ (H:∀ j,j<=k->aB E (spec E.toEnv j)) (hkk:k<=1000000000000) (h:Rd E c n g w) (hr:(spec E.toEnv k).t (.stmtsMore []) n false≠.out) :
  Calls Tryz.prog 41 #[p8 c] w (Ans E c g ((spec E.toEnv k).t (.stmtsMore []) n false) w):=by
 have HA:=hid H;have HD:=hid (H k (C' _));clear H;have H0:=Sx.start h hr rfl
 skip
 try simp only [reduceCtorEq,bs] at H0
 clear h hr
 go_in
 go_wp2_with fail;refine pG H0 (fun hr=>tS H0.out.rd 72 Cw (fun w1 hR hF=>CM HA.out hkk hR hr)) (fun _ _ h=>⟨rfl,h⟩) ?_;intro q wz HA;clear H0;go_wp2_with fail;go_ret;exact HA.out
theorem XS (H:aB E S) (h:Rd E c n g w) (hr:S.t (.binary 1) n g≠.out) :
  Calls Tryz.prog 40 #[p8 c] w (Ans E c g (S.t (.binary 1) n g) w):=by
 have HD:=hid H;clear H;have H0:=Sx.start h hr rfl
 skip
 try simp only [reduceCtorEq,bs] at H0
 clear h hr
 go_in
 go_wp2_with fail;refine pG H0 (fun hr=>HD.out.b 1 c n g _ Ct Ct H0.out.rd hr) (fun _ _ h=>⟨rfl,h⟩) ?_;intro q wz HA;clear H0;go_wp2_with fail;go_ret;exact HA.out
end
end
section
open Go.RowKit
variable {E:Ev}{S:AB}{c n k:Nat}{g:Bool}{w w0 w1 w2:World}{v:Value}{ps:List Nat}{ts:List Tr}{rs:List Nat}{us:List Tr}{T X:R Tr}
theorem FS {p:Nat}{P:World->Prop}{fn:FuncId}{args:Array Value}{Q:Ending->World->Prop} (h:Hid (Sx E c n g w0 P T X w)) (hC:X≠.out->Calls Tryz.prog fn args w (fE E c g X w0 p)) (hB:∀ k w',Ans E c g T w0 (Up k) w'->Q (Up k) w')
  (hQ:∀ w',Hid (Ans E c g T w0 (.returned (p8 p)) w')->Q (.returned (p8 p)) w'):Calls Tryz.prog fn args w Q:=by
 refine (hC (fun e=>h.out.ne K9)).mono ?_;rintro e w' ⟨hp,hA2⟩;rw [<- h.out.eq] at hA2;rcases hA2.shape with ⟨q,rfl⟩|⟨k2,rfl⟩
 ·have:=hp q rfl;subst this;exact hQ w' hA2
 ·exact hB k2 w' hA2
theorem fE.up {p m:Nat} (h:Ans E c g T w0 (Up m) w):fE E c g T w0 p (Up m) w:=⟨fun _ hq=>Km,h⟩
theorem uQ {fr t0 p q:Nat}{x:Tr}{kv:Value} (H:∀ j,j<=k->aB E (spec E.toEnv j)) (hkk:k<=1000000000000) (h:Rd E c n g w) (hn:n < E.l.length) (hnd:Nd E c w0 p 0 (-1) fr t0 kv [q] [x] [] [] w) (hr:sE E.toEnv (spec E.toEnv k) fr x n g≠.out) :
  Calls Tryz.prog 193 #[p8 c,p8 p] w (fE E c g (sE E.toEnv (spec E.toEnv k) fr x n g) w0 p):=by
 have HA:=hid H;clear H;have HLT:=hid hn;clear hn;have H0:=Sx.startN h hnd hr rfl
 conv at H0=>arg 1;arg 8;unfold sE
 simp only [oA,mA] at H0;clear h hnd hr;obtain⟨hk0,_,_,_,_⟩:=H0.out.ex.opn.blk.cells;have hfz0:=H0.out.ex.opn.blk.free 0;have H1:Hid (Sx _ _ _ _ _ _ _ _ (w.setCell (y8 p 0) (.int .u8 30))):=dB H0 30;clear H0;obtain⟨_,_,_,hat,_⟩:=H1.out.rd.cells;have hsm:((n:Nat):Int)<=1099511627776:=by have:=H1.out.rd.at_;have:=H1.out.rd.lie.small;omega
 have hfz:=H1.out.rd.free 3;have HO:=ZA H1 HLT;clear H1;obtain⟨n1,hm⟩:∃ m,m=n+1:=⟨_,rfl⟩;simp only [<- hm] at HO;clear hm
 go_in
 go_wp2_with fail;generalize (w.setCell (y8 p 0) (.int .u8 30)).setCell (y8 c 3) (i8 (((n:Nat):Int)+1))=wB at *;clear hat hsm hfz hfz0 hk0;have HD:=hid (HA.out k (C' _));have H:=gX HO;refine sS H 0 ?_;intro q3 w3 H;go_wp2_with fail;cases h1:E.is n1 [58] with
 | true =>
  have d1:(E.word (n1:Nat)==[58])=true:=h1;simp only [h1,Be] at H;refine cA H ?_;intro w H;go_wp2_with fail;refine vE H h1 ?_;intro n w hm H;simp only [<- hm] at H;clear hm d1;have H:=PN HO H;exact dr
 | false =>
  have d1:(E.word (n1:Nat)==[58])=false:=h1;simp only [h1,Ba,Bf] at H;refine cA H ?_;intro w H;have H:=BX H;clear h1;go_wp2_with fail;clear d1;refine aZ1 H HD up ⟨rfl,Ct⟩ sf ?_;intro q u n5 w5 H;go_wp2_with fail;cases h2:E.is n5 [58] with
  | true =>
   simp only [h2,Be] at H;refine vE H h2 ?_;intro n w hm H;simp only [<- hm] at H;clear hm;have H:=PN HO H;exact dr
  | false =>
   simp only [h2,Ba,Bf] at H;refine gH H h2 ?_;intro w6 H;clear h2;have H:=pL H Cu;simp only [Ar] at H;go_wp2_with fail
   go_loopg [6] k (fun j v wr=>cO E c g w0 wB (sE E.toEnv (spec E.toEnv k) fr x n g) (F.indexMore fr x) k j v wr)
   case atStart=>exact⟨n5,[u],[q],Cv,H⟩
   case round =>
    clear H;obtain⟨n,acc,ps,hl,H⟩:=hrel;have HL:=hid hl;clear hl;rcases gk with _|j
    ·exact zcd
    replace H:Hid (Sx _ _ _ _ _ _ _ (fC E.toEnv (spec E.toEnv j) fr x acc n g) _):=H
    conv at H=>arg 1;arg 8;unfold fC
    have HD:=hid (HA.out j ol);have KL:Kd 11 11:=rfl;have MG:True:=trivial;exact dr
end
section
open Go.RowKit
variable {E:Ev}{S:AB}{c n k:Nat}{g:Bool}{w w0 w1 w2:World}{v:Value}{ps:List Nat}{ts:List Tr}{rs:List Nat}{us:List Tr}{T X:R Tr}
theorem gR {p Bn Br fr t0:Nat}{wd:Int}{kv:Value} (H:aB E S) (h:Rd E c n g w) (hO:YC w p 34 wd fr t0 kv) (hbn:w.cell? (y8 Bn 0)=some (p8 p)) (hbr:w.cell? (y8 Br 0)=some (p8 c))
  (hx:Bn≠c/\Bn≠p/\Br≠c/\Br≠p/\c < p) (hz:E.zo=none∨E.zb≠p) (hne:zM E.toEnv S .call wd n g≠.out) :
  Calls Tryz.prog 232 #[p8 Bn,p8 Br] w (mV E c g [c,p] (fun wd' w'=>YC w' p 34 wd' fr t0 kv) (zM E.toEnv S .call wd n g) w):=by
 obtain⟨hx1,hx2,hx3,hx4,hx5⟩:=hx;have HD:=hid H;clear H;have HR:=hid h;have HO:=hid hO;obtain⟨_,hk1,_,_,_⟩:=hO.cells;have hne2:∀ (b:Bool),decide ((0:Int)<=wd)=b->zM E.toEnv S .call wd n g=if b then .bad n else (S.t .expr n g).andThen fun x n1=>if E.is n1 [46,46,46] then .ok (x,(n1:Int)) (n1+1) else .ok (x,wd) n1:=by
  intro b hb;unfold zM;by_cases h0:(0:Int)<=wd
  ·rw [Bb h0,<- hb,decide_eq_true h0];rfl
  ·rw [Bc h0,<- hb,decide_eq_false h0];rfl
 cases d0:decide ((0:Int)<=wd) with
 | true =>
  have hB:=hne2 true d0;rw [Bb rfl] at hB;have HB:=hid hB;clear hne2 hB hne h hO
  go_in
  go_wp2_with fail;refine (VH HR.out).mono ?_;rintro e w' ⟨rfl,rfl⟩;refine⟨rfl,?_⟩;rw [HB.out];exact⟨rfl,⟨g,HR.out⟩,Fr.refl _ _⟩
 | false =>
  have hB:=hne2 false d0;rw [Bc Ct] at hB;have HC:=HD.out.t .expr c n g w Ct (DA rfl h.at_) h;cases hc:S.t .expr n g with
  | out=>rw [hc] at hB;exact absurd hB hne
  | bad m =>
   rw [hc] at HC hB;have HC2:=hid (HC Cu);have HB:=hid hB;clear hne2 hB hne h hO HC hc
   go_in
   go_wp2_with fail;refine HC2.out.mono ?_;rintro e w' ⟨rfl,q1,q2⟩;refine⟨rfl,?_⟩;rw [HB.out];exact⟨rfl,q1,q2.weaken (fun i _ hi=>Gy)⟩
  | ok x n1 =>
   rw [hc] at HC hB;have HC2:=hid (HC Cu);have HB:=hid hB;have hpw:=hO.lt;clear hne2 hB hne h hO HC hc
   go_in
   go_wp2_with fail;refine HC2.out.mono ?_;rintro e w1 ⟨q,rfl,q1,q2,q3⟩;have hbn1:=q3.cell (a:=(y8 Bn 0)) (by simpa using hx1) hbn;have hbr1:=q3.cell (a:=(y8 Br 0)) (by simpa using hx3) hbr;have HS:=hid (Az q1 (Az q2 (Az q3 (HO.out.later q3 Cv))));clear q1 q2 q3 HC2 hbn hbr hk1;have HNX:=hid (pE HS.out.1);cases h1:E.is n1 [46,46,46] with
   | false =>
    have d1:(E.word (n1:Nat)==[46,46,46])=false:=h1;have hB:=HB.out;simp only [mA,h1,Ba,Bf] at hB;have HB2:=hid hB;clear hB h1;go_wp2_with fail;refine HNX.out.mono ?_;rintro e w2 ⟨rfl,hb⟩;go_wp2_with fail;go_ret;obtain⟨q1,q2,q3,q4⟩:=HS.out;rw [HB2.out];have hf:=q3.trans (lA c hb);exact⟨q,rfl,q1.below hb,EA.later q2 (lA c hb) (fun i hi=>F6) (C' _) hb.size,hf.weaken (fun i _ hi=>Gy),q4.later (lA c hb) Cv⟩
   | true =>
    have d1:(E.word (n1:Nat)==[46,46,46])=true:=h1;have hB:=HB.out;simp only [mA,h1,Be] at hB;have HB2:=hid hB;have HLT:=hid (gA h1);clear hB h1;go_wp2_with fail;refine HNX.out.mono ?_;rintro e w2 ⟨rfl,hb⟩;obtain⟨q1,q2,q3,q4⟩:=HS.out;have r1:=q1.below hb;have r3:=q3.trans (lA c hb);have r2:EA w2 w.heap.size w2.heap.size q x:=EA.later q2 (lA c hb) (fun i hi=>F6) (C' _) hb.size;have r4:=q4.later (lA c hb) Cv;have hbn2:=aA hb hbn1;have hbr2:=aA hb hbr1;obtain⟨_,_,_,hat,_⟩:=r1.cells;obtain⟨_,hk1,_,_,_⟩:=r4.cells;have hfz:=r4.free 1;have hpc:c≠p:=Cs
    have HT:=hid (Az r1 (Az r2 (Az r3 r4)));clear q1 q2 q3 q4 r1 r2 r3 r4 HS hbn1 hbr1 hb HNX;go_wp2_with fail
    go_region_held3 (fun w'=>w'.cell? (y8 Bn 0)=some (p8 p)/\w'.cell? (y8 Br 0)=some (p8 c)/\w'.cell? (y8 c 3)=some (i8 (n1:Int)))
     (first|(refine⟨?_,?_,?_⟩;all_goals assumption)|(go_split_ands;refine⟨?_,?_,?_⟩;all_goals exact kH ‹_› ‹_›))
     (first|fail)
    obtain⟨r1,r2,r3,r4⟩:=HT.out;have f1:Fr [p] w2 (w2.setCell (y8 p 1) (i8 (n1:Int))).drew:=(NA p 1 w2 _).drew;have s1:Rd E c n1 g (w2.setCell (y8 p 1) (i8 (n1:Int))).drew:=r1.later f1 (fun i hi=>F4) (hz.imp id (fun h m=>h Gq));have s4:YC (w2.setCell (y8 p 1) (i8 (n1:Int))).drew p 34 (n1:Int) fr t0 kv:=YC.named_ (w:=w2) r4 _;have s2:EA (w2.setCell (y8 p 1) (i8 (n1:Int))).drew w.heap.size w2.heap.size q x:=EA.later r2 f1 (fun i hi=>by simp at hi;subst hi;omega) (C' _) (C' _);have s3:Fr [c,p] w (w2.setCell (y8 p 1) (i8 (n1:Int))).drew:=(r3.weaken (fun i _ hi=>Gy)).trans (f1.weaken (fun i _ hi=>Gy));have hsz:(w2.setCell (y8 p 1) (i8 (n1:Int))).drew.heap.size=w2.heap.size:=by simp [World.drew]
    obtain⟨_,_,_,hat3,_⟩:=s1.cells;have hfz3:=s1.free 3;have hsm:((n1:Nat):Int)<=1099511627776:=by have:=s1.at_;have:=s1.lie.small;omega
    have hbr3:(w2.setCell (y8 p 1) (i8 (n1:Int))).drew.cell? (y8 Br 0)=some (p8 c):=kH hx4 hbr2;generalize (w2.setCell (y8 p 1) (i8 (n1:Int))).drew=w3 at *;have HT:=hid (Az s1 (Az s2 (Az s3 (Az s4 hsz))));clear r1 r2 r3 r4 f1 s1 s2 s3 s4 hsz hbn2 hbr2 hat hk1 hfz;go_wp2_with fail;go_ret;obtain⟨s1,s2,s3,s4,hsz⟩:=HT.out;rw [HB2.out];have f2:Fr [c] w3 (w3.setCell (y8 c 3) (i8 ((n1:Int)+1))):=NA c 3 w3 _;refine⟨q,rfl,by simpa using s1.moved (n1+1) (by have:=HLT.out;omega),?_,s3.trans (f2.weaken (fun i _ hi=>Gy)),s4.later f2 Cv⟩;exact EA.later s2 f2 (fun i hi=>F6) Cs Cv
end
section
open Go.RowKit
variable {E:Ev}{S:AB}{c n k:Nat}{g:Bool}{w w0 w1 w2:World}{v:Value}{ps:List Nat}{ts:List Tr}{rs:List Nat}{us:List Tr}{T X:R Tr}
theorem aU {fr t0 p q:Nat}{x:Tr}{kv:Value} (H:∀ j,j<=k->aB E (spec E.toEnv j)) (hkk:k<=1000000000000) (h:Rd E c n g w) (hnd:Nd E c w0 p 0 (-1) fr t0 kv [q] [x] [] [] w) (hr:bG E.toEnv (spec E.toEnv k) fr x n g≠.out) :
  Calls Tryz.prog 191 #[p8 c,p8 p] w (fE E c g (bG E.toEnv (spec E.toEnv k) fr x n g) w0 p):=by
 have HA:=hid H;clear H;have hpw:=hnd.opn.blk.lt;have hcp:c < p:=by have:=hnd.cw;have:=hnd.opn.low;omega
 have hB1:=(N' w.heap.size w).alloc (C' _) (Obj.cells #[p8 c] 47);have hB2:=(N' (w.alloc (.cells #[p8 c] 47)).heap.size (w.alloc (.cells #[p8 c] 47))).alloc (C' _) (Obj.cells #[p8 p] 44);have hbr:=aA hB2 (nE w (p8 c) 47);have hbn:=nE (w.alloc (.cells #[p8 c] 47)) (p8 p) 44;have H0:=Sx.startN h hnd hr rfl
 conv at H0=>arg 1;arg 8;unfold bG
 have H1:=FF (FF H0 (.cells #[p8 c] 47)) (.cells #[p8 p] 44);clear H0;rw [World.size_alloc] at hbn;have hfz:=H1.out.ex.opn.blk.free 0;obtain⟨hk0,_,_,_,_⟩:=H1.out.ex.opn.blk.cells;have hzp:=hnd.z.imp id (fun h=>h.1);have HZP:=hid hzp;clear h hnd hr hB1 hB2 hzp
 go_in
 go_upto_region 1 with fail;generalize (w.alloc (.cells #[p8 c] 47)).alloc (.cells #[p8 p] 44)=wB at *;generalize hBr:w.heap.size=Br at *;have H2:Hid (Sx _ _ _ _ _ _ _ _ (wB.setCell (y8 p 0) (.int .u8 34))):=dB H1 34;clear H1;have hn1:Br≠p:=Cs
 have hn2:Br+1≠p:=Cs
 have hbr2:=kH (N:=p) (j:=0) (x:=.int .u8 34) (a:=(y8 Br 0)) hn1 hbr;have hbn2:=kH (N:=p) (j:=0) (x:=.int .u8 34) (a:=(y8 (Br+1) 0)) hn2 hbn;go_wp2_with fail;generalize wB.setCell (y8 p 0) (.int .u8 34)=wC at *;clear hfz hk0 hbr hbn;have hh:=H2.out;have hrr:rows E.toEnv (spec E.toEnv k) [40] [44] [41] .call n g≠.out:=fun e=>hh.ne (by rw [hh.eq,e];rfl)
 have hcall:=EO hh.rd k Cs 40 44 41 [] [] [] .call 232 #[] #[.pointer (some (y8 (Br+1) 0)),p8 Br] (fun _=>cF Cw _ _) [c,p]
  (fun i hi=>by have:=hh.rd.lt;have:=hh.ex.opn.blk.lt;simp at hi;omega) Cu (fun wd w'=>YC w' p 34 wd fr t0 kv)
  (fun wd a b s hs hb=>by unfold YC at s ⊢;rw [hb p hh.ex.opn.blk.lt Cs];exact s) hh.ex.opn.blk
  (fun j n1 word w1 hj hR hF hS hne=>gR (HA.out j Cs) hR hS (hF.cell (a:=(y8 (Br+1) 0)) Cv hbn2) (hF.cell (a:=(y8 Br 0)) Cv hbr2) ⟨Cs,Cs,Cs,Cs,hcp⟩ HZP.out hne) hrr
 have HC:=hid hcall;have HF:=hid (Az hcp (Az hpw hBr));clear hcall hh hn1 hn2;have HB:=hid (Az hbr2 hbn2);refine HC.out.mono ?_;intro e w' hA;clear HC;have hh:=H2.out;cases hc:rows E.toEnv (spec E.toEnv k) [40] [44] [41] .call n g with
 | out=>exact absurd hc hrr
 | bad m =>
  rw [hc] at hA hh;obtain⟨rfl,q1,q2⟩:=hA;refine⟨rfl,fE.up ?_⟩;rw [hh.eq];exact⟨rfl,q1,hh.fr.trans' q2 (fun i hi=>by have:=hh.ex.opn.low;simp at hi;rcases hi with e|e;exact .inl (by simp [e]);exact .inr Cs)⟩
 | ok u n1 =>
  rw [hc] at hA;have H3:=H2;rw [hc] at H3;obtain⟨va,rs,rfl,q1,q2,q3,q4,q5⟩:=hA;simp only [mA] at H3;have H4:=oD H3 u.2;clear H3;have hsz:(wC.setCell (y8 p 1) (i8 u.2)).heap.size=wC.heap.size:=Cu
  have f1:Fr [c] (wC.setCell (y8 p 1) (i8 u.2)) w':=by
   refine⟨q3.os,q3.tape,q3.output,by rw [hsz];exact q3.size,fun i hi hx=>?_⟩;by_cases hip:i=p
   ·subst hip;have a1:w'.heap[i]?=_:=q4;have a2:(wC.setCell (y8 i 1) (i8 u.2)).heap[i]?=_:=H4.out.ex.opn.blk;rw [a1,a2]
   ·rw [q3.block i (by rw [<- hsz];exact hi) (by simp at hx;simp;omega)];exact ((NA p 1 wC (i8 u.2)).block i (by rw [<- hsz];exact hi) (by simpa using hip)).symm
  have hD:∀ b,NI wC va w' b->NI (wC.setCell (y8 p 1) (i8 u.2)) va w' b:=fun b hb=>⟨by rw [hsz];exact hb.1,hb.2⟩
  have H5:Hid (Sx E c n1 g w0 (Rw E c (wC.setCell (y8 p 1) (i8 u.2)) va rs u.1 [] []) _ _ w') :=
   (H4.out.step f1 q1 rfl).with ⟨f1,by rw [hsz];exact hh.rd.lt,by rw [hsz];exact q2.1,fA.kept (fun _ _=>rfl) hD _ _ q2.2,trivial,hh.rd.zlt.imp id (fun h e=>by have:=(q2.1.lt _ e).1;omega)⟩ Rw.later
  have hbr3:=q3.cell (a:=(y8 Br 0)) (by have:=HF.out;simp;omega) HB.out.1;have hbn3:=q3.cell (a:=(y8 (Br+1) 0)) (by have:=HF.out;simp;omega) HB.out.2;generalize wC.setCell (y8 p 1) (i8 u.2)=wV at *;have HL:Hid (rs.length<=1099511627776):=hid Cs;have HX3:=hid (Az hbr3 hbn3);have hcw:=H5.out.cw;have HN3:=hid (Az (show Br≠c by have:=HF.out;omega) (show Br+1≠c by have:=HF.out;omega));clear hh q1 q2 q3 q4 q5 hsz f1 hD hc hrr H2 HB hbr2 hbn2 hcw;obtain⟨u1,u2⟩:=u;simp only [] at H4 H5;have H6:=H5;clear H5;obtain⟨hbr3,hbn3⟩:=HX3.out;go_wp2_with fail;refine (XN H6.out.rd 11 H6.out.ex HL.out).mono ?_;rintro e w7 ⟨q7,rfl,b1,b2,b3⟩;have H7:Hid (Sx E c n1 g w0 (Nd E c w0 p 34 u2 fr t0 kv [q] [x] ([]++[q7]) ([]++[xC 11 u1 n1])) _ _ w7) :=
   ⟨b1,H6.out.fr.trans (lA c b3),H6.out.cw,H4.out.ex.kid (H6.out.ex.fr.trans (lA c b3)) b2,Nd.later,H6.out.eq,H6.out.ne⟩
  have hbr7:=aA b3 hbr3;have hbn7:=aA b3 hbn3;clear b1 b2 b3 H6 H4 hbr3 hbn3 HX3;go_wp2_with fail;refine (NH H7.out.rd 41 []).mono ?_;intro e w8 hD;have hh:=H7.out;cases h1:want E.toEnv [41] n1 with
  | out=>rw [h1] at hD;exact hD.elim
  | bad m =>
   rw [h1] at hD hh;obtain⟨rfl,d1,d2⟩:=hD;exact⟨rfl,fE.up (hh.bad rfl d1 d2)⟩
  | ok u8 n8 =>
   rw [h1] at hD hh;obtain⟨rfl,d1,d2⟩:=hD;have H8:=hid (hh.step d2 d1 rfl);have hbr8:=d2.cell (a:=(y8 Br 0)) (by have:=HN3.out.1;simpa using this) hbr7;have hbn8:=d2.cell (a:=(y8 (Br+1) 0)) (by have:=HN3.out.2;simpa using this) hbn7;simp only [mA] at H8;clear d1 d2 hh H7 hbr7 hbn7 h1;go_wp2_with fail;refine (eA H8 Cu).mono ?_;rintro e wz ⟨rfl,HZ⟩;clear H8 hbr8 hbn8;go_wp2_with fail;go_ret;exact fE.mk HZ.out
end
section
open Go.RowKit
variable {E:Ev}{S:AB}{c n k:Nat}{g:Bool}{w w0 w1 w2:World}{v:Value}{ps:List Nat}{ts:List Tr}{rs:List Nat}{us:List Tr}{T X:R Tr}
theorem xN (k:UInt8):((k.toNat:Int)==26)=(k==26):=by
 rw [Bg,Bh,Bh,<- Ay]
 show _↔k.toNat=26
 omega
theorem DX (k:UInt8):((k.toNat:Int)==29)=(k==29):=by
 rw [Bg,Bh,Bh,<- Ay]
 show _↔k.toNat=29
 omega
theorem RX (k:UInt8):((k.toNat:Int)==30)=(k==30):=by
 rw [Bg,Bh,Bh,<- Ay]
 show _↔k.toNat=30
 omega
theorem MS (k:UInt8):((k.toNat:Int)==33)=(k==33):=by
 rw [Bg,Bh,Bh,<- Ay]
 show _↔k.toNat=33
 omega
theorem JX (k:UInt8):((k.toNat:Int)==41)=(k==41):=by
 rw [Bg,Bh,Bh,<- Ay]
 show _↔k.toNat=41
 omega
theorem LX (k:UInt8):((k.toNat:Int)==42)=(k==42):=by
 rw [Bg,Bh,Bh,<- Ay]
 show _↔k.toNat=42
 omega
theorem OX (k:UInt8):((k.toNat:Int)==43)=(k==43):=by
 rw [Bg,Bh,Bh,<- Ay]
 show _↔k.toNat=43
 omega
theorem QX (k:UInt8):((k.toNat:Int)==44)=(k==44):=by
 rw [Bg,Bh,Bh,<- Ay]
 show _↔k.toNat=44
 omega
theorem EX (k:UInt8):((k.toNat:Int)==47)=(k==47):=by
 rw [Bg,Bh,Bh,<- Ay]
 show _↔k.toNat=47
 omega
theorem gS (k:UInt8):((k.toNat:Int)==50)=(k==50):=by
 rw [Bg,Bh,Bh,<- Ay]
 show _↔k.toNat=50
 omega
theorem qV (k:UInt8):((k.toNat:Int)==53)=(k==53):=by
 rw [Bg,Bh,Bh,<- Ay]
 show _↔k.toNat=53
 omega
theorem Sh.two {u:Tr} (h:Sh u) (hk:okN u.kind u.kids.length=okN 30 u.kids.length):∃ a b,u.kids=[a,b]:=by
 have ha:=h.arity;rw [hk] at ha
 match hu:u.kids with
 | []=>rw [hu] at ha;exact absurd ha (by show ¬ okN 30 0=true;decide)
 | [_]=>rw [hu] at ha;exact absurd ha (by show ¬ okN 30 1=true;decide)
 | [a,b]=>exact⟨a,b,rfl⟩
 | a::b::d::r=>rw [hu] at ha;exact absurd ha (by show ¬ okN 30 (r.length+3)=true;simp [okN,show arT 30=(2,false) from rfl])
theorem Sh.one {u:Tr} (h:Sh u) (hk:okN u.kind u.kids.length=okN 50 u.kids.length):∃ a,u.kids=[a]:=by
 have ha:=h.arity;rw [hk] at ha
 match hu:u.kids with
 | []=>rw [hu] at ha;exact absurd ha (by show ¬ okN 50 0=true;decide)
 | [a]=>exact⟨a,rfl⟩
 | a::b::r=>rw [hu] at ha;exact absurd ha (by show ¬ okN 50 (r.length+2)=true;simp [okN,show arT 50=(1,false) from rfl])
theorem nN {D:Nat->Prop}{q:Nat}{u:Tr} (h:nA w D q u) (hs:Sh u):Calls Tryz.prog 234 #[p8 q] w fun e w'=>e=.returned (.bool (plain u))/\w=w':=by
 obtain⟨_,h0,_,_,_,_⟩:=nA.cells h;cases a:(u.kind==26) with
 | true =>
  have d1:((u.kind.toNat:Int)==26)=true:=by rw [xN];exact a
  have hp:plain u=true:=by unfold plain;rw [a];rfl
  have HP:=hid hp;clear hp a hs h
  go_in
  exact zaw
 | false =>
  have d1:((u.kind.toNat:Int)==26)=false:=by rw [xN];exact a
  cases b:(u.kind==29) with
  | false =>
   have d2:((u.kind.toNat:Int)==29)=false:=by rw [DX];exact b
   have hp:plain u=false:=by unfold plain;rw [a,b];rfl
   have HP:=hid hp;clear hp a b hs h
   go_in
   exact zaw
  | true =>
   have d2:((u.kind.toNat:Int)==29)=true:=by rw [DX];exact b
   obtain⟨x,y,hk⟩:=Sh.two hs (by rw [B7 b];rfl);obtain⟨b9,o9,c9,px,k4,k5,ht⟩:=nA.first h hk;obtain⟨_,h1,_,_,_,_⟩:=nA.cells ht;have hp:plain u=(x.kind==26):=by unfold plain;rw [a,b,hk];simp
   cases d:(x.kind==26) with
   | true =>
    have d3:((x.kind.toNat:Int)==26)=true:=by rw [xN];exact d
    have HP:=hid (hp.trans d);clear hp a b d hs h ht hk
    go_in
    exact zaw
   | false =>
    have d3:((x.kind.toNat:Int)==26)=false:=by rw [xN];exact d
    have HP:=hid (hp.trans d);clear hp a b d hs h ht hk
    go_in
    exact zaw
theorem XQ {D:Nat->Prop}{q:Nat}{u:Tr} (hr:Rd E c n g w) (h:nA w D q u) (hs:Sh u):Calls Tryz.prog 194 #[p8 c,p8 q] w fun e w'=>e=.returned (.bool (filled g u))/\w=w':=by
 obtain⟨_,h0,_,_,_,_⟩:=nA.cells h;obtain⟨_,_,_,_,hg⟩:=hr.cells;have hB:∀ b,filled g u=b->Hid (filled g u=b):=fun _ h=>h
 cases a41:(u.kind==41) with
 | true =>
  have d41:((u.kind.toNat:Int)==41)=true:=by rw [JX];exact a41
  have HP:=hB true (by unfold filled;rw [Bb (by simp [B7 a41])]);clear hB hs h hr a41
  go_in
  exact zaw
 | false =>
  have d41:((u.kind.toNat:Int)==41)=false:=by rw [JX];exact a41
  cases a42:(u.kind==42) with
  | true =>
   have d42:((u.kind.toNat:Int)==42)=true:=by rw [LX];exact a42
   have HP:=hB true (by unfold filled;rw [Bb (by simp [B7 a42])]);clear hB hs h hr a41 a42
   go_in
   exact zaw
  | false =>
   have d42:((u.kind.toNat:Int)==42)=false:=by rw [LX];exact a42
   cases a43:(u.kind==43) with
   | true =>
    have d43:((u.kind.toNat:Int)==43)=true:=by rw [OX];exact a43
    have HP:=hB true (by unfold filled;rw [Bb (by simp [B7 a43])]);clear hB hs h hr a41 a42 a43
    go_in
    exact zaw
   | false =>
    have d43:((u.kind.toNat:Int)==43)=false:=by rw [OX];exact a43
    cases a44:(u.kind==44) with
    | true =>
     have d44:((u.kind.toNat:Int)==44)=true:=by rw [QX];exact a44
     have HP:=hB true (by unfold filled;rw [Bb (by simp [B7 a44])]);clear hB hs h hr a41 a42 a43 a44
     go_in
     exact zaw
    | false =>
     have d44:((u.kind.toNat:Int)==44)=false:=by rw [QX];exact a44
     cases a47:(u.kind==47) with
     | true =>
      have d47:((u.kind.toNat:Int)==47)=true:=by rw [EX];exact a47
      have HP:=hB true (by unfold filled;rw [Bb (by simp [B7 a47])]);clear hB hs h hr a41 a42 a43 a44 a47
      go_in
      exact zaw
     | false =>
      have d47:((u.kind.toNat:Int)==47)=false:=by rw [EX];exact a47
      have hno:¬ (u.kind=41∨u.kind=42∨u.kind=43∨u.kind=44∨u.kind=47):=by
       simp only [Bi] at a41 a42 a43 a44 a47;simp [a41,a42,a43,a44,a47]
      cases a30:(u.kind==30) with
      | true =>
       have d30:((u.kind.toNat:Int)==30)=true:=by rw [RX];exact a30
       obtain⟨x,y,hk⟩:=Sh.two hs (by rw [B7 a30]);obtain⟨b9,o9,c9,px,k4,k5,ht⟩:=nA.first h hk;have hf:filled g u=(!g&&plain x):=by unfold filled;rw [Bc hno];simp only [B7 a30,hk,Be]
       have hpl:=nN ht (Shs.mem hs.kids Ew);obtain⟨bp,hbp⟩:∃ b,plain x=b:=⟨_,rfl⟩;rw [hbp] at hf hpl;have HPL:=hid hpl;cases g with
       | true =>
        have HP:=hB false hf;clear hB hs h hr hf hpl hbp hno a41 a42 a43 a44 a47 a30 ht hk
        go_in
        exact zaw
       | false =>
        have HP:=hB bp (by rw [hf];simp);clear hB hs h hr hf hpl hbp hno a41 a42 a43 a44 a47 a30 ht hk
        go_in
        exact zcp
      | false =>
       have d30:((u.kind.toNat:Int)==30)=false:=by rw [RX];exact a30
       have hf:filled g u=(!g&&plain u):=by unfold filled;rw [Bc hno];simp only [show ¬ u.kind=30 from by simpa using a30,Bf]
       have hpl:=nN h hs;obtain⟨bp,hbp⟩:∃ b,plain u=b:=⟨_,rfl⟩;rw [hbp] at hf hpl;have HPL:=hid hpl;cases g with
       | true =>
        have HP:=hB false hf;clear hB hs h hr hf hpl hbp hno a41 a42 a43 a44 a47 a30
        go_in
        exact zaw
       | false =>
        have HP:=hB bp (by rw [hf];simp);clear hB hs h hr hf hpl hbp hno a41 a42 a43 a44 a47 a30
        go_in
        exact zcp
theorem fW {D:Nat->Prop}{q:Nat}{u:Tr} (hr:Rd E c n g w) (h:nA w D q u) (hs:Sh u):Calls Tryz.prog 238 #[p8 c,p8 q] w fun e w' =>
  match only u n with|.ok x _=>∃ px,e=.returned (p8 px)/\nA w D px x/\w=w'|_=>e=Up n/\w=w':=by
 obtain⟨_,h0,_,_,_,_⟩:=nA.cells h;cases a:(u.kind==50) with
 | false =>
  have d1:((u.kind.toNat:Int)==50)=false:=by rw [gS];exact a
  have d2:((u.kind.toNat:Int) != 50)=true:=by rw [bne,d1];rfl
  have ho:only u n=.bad n:=by unfold only;rw [Bc (by simpa using a)]
  rw [ho];have HF:=hid (VH hr);clear ho a hs h hr
  go_in
  go_wp2_with fail;refine HF.out.mono ?_;rintro e w' ⟨rfl,rfl⟩;exact⟨rfl,rfl,rfl⟩
 | true =>
  have d1:((u.kind.toNat:Int)==50)=true:=by rw [gS];exact a
  have d2:((u.kind.toNat:Int) != 50)=false:=by rw [bne,d1];rfl
  obtain⟨x,hk⟩:=Sh.one hs (by rw [B7 a]);obtain⟨b9,o9,c9,px,k4,k5,ht⟩:=nA.first h hk;have ho:only u n=.ok x n:=by unfold only;rw [Bb (B7 a),hk]
  rw [ho];have HT:=hid ht;clear ho a hs h hr hk ht
  go_in
  go_wp2_with fail;go_ret;exact⟨px,rfl,HT.out,rfl⟩
end
