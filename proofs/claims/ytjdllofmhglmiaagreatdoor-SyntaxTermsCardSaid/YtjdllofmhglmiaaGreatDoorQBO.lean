import Derived.Test.YtjdllofmhglmiaaGreatDoorQBN
namespace Go.Proofs.YtjdllofmhglmiaaGreatDoor
open Lib(hid)
set_option linter.all false
set_option maxHeartbeats 40000000
set_option maxRecDepth 100000
section
open Go.RowKit
variable {E:Ev}{S:AB}{c n:Nat}{g:Bool}{w:World}
variable {k:Nat}{w0 w1 w2:World}{p:Nat}{kd:UInt8}{wd:Int}{f t:Nat}{kv v:Value}{ps0:List Nat}{ts0:List Tr}{ps:List Nat}{ts:List Tr}{rs:List Nat}{us:List Tr}{T X:R Tr}
theorem yY {o:Obj}{Bn:Nat}{r:R Tr}{K:Tr->Nat->R Tr}{fn:FuncId}{args:Array Value}{Q:Ending->World->Prop} (h:Hid (Sx E c n g w0 (Nd E c w1 p kd wd f t kv ps0 ts0 ps ts) T (r.andThen K) w)) (hC:r≠.out->Calls Tryz.prog fn args w (Ans E c g r w))
  (hbc:Hid (Bn≠c)) (hbo:Hid (w.heap[Bn]?=some o)) (hB:∀ k w',Ans E c g T w0 (Up k) w'->Q (Up k) w')
  (hQ:∀ q u n' w',Hid (w'.heap[Bn]?=some o)->Hid (r=.ok u n')->Hid (Sx E c n' g w0 (Nd E c w1 p kd wd f t kv ps0 ts0 (ps++[q]) (ts++[u])) T (K u n') w')->Q (.returned (p8 q)) w') :
  Calls Tryz.prog fn args w Q:=by
 refine (hC (fun e=>h.out.ne Eo)).mono ?_;intro e w' hA;have hh:=h.out;cases r with
 | out=>exact hA.elim
 | bad m=>obtain⟨rfl,q1,q2⟩:=hA;exact hB m w' (hh.bad rfl q1 q2)
 | ok u m=>obtain⟨q,rfl,q1,q2,q3⟩:=hA;exact hQ q u m w' (q3.at_ (by simpa using hbc.out) hbo.out) rfl ((hh.step q3 q1 rfl).with (hh.ex.kid q3 q2) Nd.later)
theorem yV {b:Nat}{v:Value}{tt:TypeId} (h:w.heap[b]?=some (.cells #[v] tt (0,0))):w.setCell (y8 b 0) v=w:=by
 have hh:(w.setCell (y8 b 0) v).heap=w.heap:=by
  apply Array.ext_getElem?;intro i;rcases Nat.decEq i b with hne|rfl
  ·exact Ah _ _ _ _ hne
  ·rw [heap_setCell_same w i 0 _ _ _ h,h];rfl
 have h2:w.setCell (y8 b 0) v={ w with heap:=(w.setCell (y8 b 0) v).heap }:=rfl;rw [h2,hh]
theorem SS {P:World->Prop} (h:Hid (Sx E c n g w0 P T X w)):∃ φ:World->Prop,Hid (φ=fun w'=>Sx E c n g w0 P T X w')/\φ w:=⟨_,rfl,h.out⟩
theorem xU {P:World->Prop}{φ:World->Prop} (h:Hid (φ=fun w'=>Sx E c n g w0 P T X w')) {w':World} (hp:φ w'):Hid (Sx E c n g w0 P T X w'):=by rw [h.out] at hp;exact hp
theorem NK {P:World->Prop}{B1 B2:Nat}{o1 o2:Obj}{Q:Ending->World->Prop} (h:Hid (Sx E c n g w0 P T X w)) (hb:Hid (w.heap[B1]?=some o1/\w.heap[B2]?=some o2)) (i:Int)
  (hQ:∀ w',Hid (w'.heap[B1]?=some o1/\w'.heap[B2]?=some o2)->Hid (Sx E c n g w0 P T X w')->Q (.returned (.string ⟨(E.word i).toArray⟩)) w') :
  Calls Tryz.prog 21 #[p8 c,i8 i] w Q:=by
 refine (BH E c i w h.out.rd.cells.1 h.out.rd.cells.2.1 h.out.rd.lie).mono ?_;rintro e w' ⟨rfl,hbl⟩;exact hQ w' ⟨(hbl.block _ (Ak.1 hb.out.1).1).trans hb.out.1,(hbl.block _ (Ak.1 hb.out.2).1).trans hb.out.2⟩ (h.out.below hbl)
theorem fX {P:World->Prop}{B1:Nat}{o1:Obj}{Q:Ending->World->Prop} (h:Hid (Sx E c n g w0 P T X w)) (hb:Hid (w.heap[B1]?=some o1))
  (hQ:∀ w',Hid (w'.heap[B1]?=some o1)->Hid (Sx E c n g w0 P T X w')->Q (.returned (.string ⟨(E.word (n:Int)).toArray⟩)) w') :
  Calls Tryz.prog 76 #[p8 c] w Q:=by
 refine (pE h.out.rd).mono ?_;rintro e w' ⟨rfl,hbl⟩;exact hQ w' ((hbl.block _ (Ak.1 hb.out).1).trans hb.out) (h.out.below hbl)
theorem oX {p2:Nat}{kd2:UInt8}{wd2:Int}{f2 t2:Nat}{kv2:Value}{ps2:List Nat}{ts2:List Tr}{n0:Nat}{X0:R Tr}{w':World} (H:Hid (Sx E c n0 g w0 (Nd E c w1 p kd wd f t kv ps0 ts0 ps ts) T X0 w)) (h:Hid (Sx E c n g w0 (Nd E c w p2 kd2 wd2 f2 t2 kv2 ps2 ts2 rs us) T X w')) :
  Hid (Sx E c n g w0 (Nd E c w1 p kd wd f t kv ps0 ts0 (ps++rs) (ts++us)) T X w') :=
 h.out.with (Nd.join H.out.ex h.out.ex.fr h.out.ex.kids (fun b hb=>⟨hb.1,hb.2.1⟩)) Nd.later
theorem nX {o:Obj}{Bn p2 n0:Nat}{X0:R Tr}{P2:World->Prop}{r:R Tr}{K:Tr->Nat->R Tr}{fn:FuncId}{args:Array Value}{Q:Ending->World->Prop}{wa:World} (H:Hid (Sx E c n0 g w0 (Nd E c w1 p kd wd f t kv ps0 ts0 ps ts) T X0 wa)) (h:Hid (Sx E c n g w0 P2 T (r.andThen K) w))
  (hC:r≠.out->Calls Tryz.prog fn args w (XJ (fun q=>q=p2) (E.guard Bn o) c g r wa)) (hB:∀ k w',Ans E c g T w0 (Up k) w'->Q (Up k) w')
  (hQ:∀ u n' w',Hid (w'.heap[Bn]?=some o)->Hid (r=.ok u n')->Hid (Sx E c n' g w0 (Nd E c w1 p kd wd f t kv ps0 ts0 (ps++[p2]) (ts++[u])) T (K u n') w')->Q (.returned (p8 p2)) w'):Calls Tryz.prog fn args w Q:=by
 refine (hC (fun e=>h.out.ne Eo)).mono ?_;rintro e w' ⟨hp,hA⟩;have hh:=h.out;have hH:=H.out;cases r with
 | out=>exact hA.elim
 | bad k=>obtain⟨rfl,⟨g',q1⟩,q2⟩:=hA;exact hB k w' (by rw [hh.eq];exact⟨rfl,⟨g',q1.unguard hH.rd q2⟩,hH.fr.trans q2⟩)
 | ok u m =>
  obtain⟨q,rfl,q1,q2,q3⟩:=hA;have:=hp q rfl;subst this;exact hQ u m w' q1.stands rfl ⟨q1.unguard hH.rd q3,hH.fr.trans q3,hH.cw,hH.ex.kid q3 q2,Nd.later,hh.eq,hh.ne⟩
theorem LY {B Bs Bl p ql:Nat}{φ:Nat->Prop}{r:R Tr} (hr:w.cell? (y8 B 0)=some (p8 c)) (hs:w.cell? (y8 Bs 0)=some (p8 p)) (hl:w.cell? (y8 Bl 0)=some (p8 ql))
  (H:Calls Tryz.prog 204 #[p8 c,p8 p,p8 ql] w (XJ φ E c g r w0)) :
  Calls Tryz.prog 243 #[p8 B,p8 Bs,p8 Bl] w (XJ φ E c g r w0):=by
 have HH:=hid H;clear H
 go_in
 go_wp2_with fail;refine HH.out.mono ?_;rintro e w' ⟨hq,hA⟩;rcases hA.shape with ⟨q,rfl⟩|⟨m,rfl⟩
 ·clear HH hr hs hl;exact zcb
 ·exact⟨rfl,hq,hA⟩
theorem jT (H:aB E S) (HG:∀ E':Ev,E'.toEnv=E.toEnv->aB E' S) (hso:SOk E.toEnv S) (h:Rd E c n g w) (hn:n < E.l.length) (hr:fG E.toEnv S n g≠.out) :
  Calls Tryz.prog 203 #[p8 c] w (Ans E c g (fG E.toEnv S n g) w):=by
 have HLT:=hid hn;clear hn;have HD:=hid H;clear H;have hB:=(N' w.heap.size w).alloc (C' _) (Obj.cells #[p8 c] 47);have hbx:=nE w (p8 c) 47;have HX:=hid (Az hbx h.lt);have HFB:=hid (lA c hB);have H0:=Sx.start (h.below hB) hr rfl
 conv at H0=>arg 1;arg 8;unfold fG kD
 try simp only [bs,reduceCtorEq] at H0
 have HGG:=hid HG;clear HG;have HSO:=hid hso;clear hso;clear h hr hB
 go_in
 go_wp2_with fail;generalize w.alloc (.cells #[p8 c] 47)=wB at *;generalize w.heap.size=B at *;clear hbx;refine yB H0 65 ?_;intro p w1 H2;clear H0;have hbx3:=H2.out.fr.cell (a:=(y8 B 0)) Cx HX.out.1;obtain⟨_,_,_,hat6,_⟩:=H2.out.rd.cells;have hsm7:((n:Nat):Int)<=1099511627776:=Gw
 have hfz5:=H2.out.rd.free 3;have H4:=ZA H2 HLT;clear H2;obtain⟨n8,hm⟩:∃ m,m=n+1:=⟨_,rfl⟩;simp only [<- hm] at H4;have HMn8:=hid hm;clear hm;have hbx10:=H4.out.fr.cell (a:=(y8 B 0)) Cx HX.out.1;go_wp2_with fail;generalize (w1.setCell (y8 c 3) (i8 (((n:Nat):Int)+1)))=w9 at *;clear hbx3 hat6 hsm7 hfz5 hbx10
 try simp only [show (((n:Nat):Int)+1)=((n8:Nat):Int) from by have:=HMn8.out;omega] at H4
 refine IA H4 0 ?_;intro q12 w11 H13;clear H4;have hbx14:=H13.out.fr.cell (a:=(y8 B 0)) Cx HX.out.1;go_wp2_with fail;clear hbx14;cases h15:E.is n8 [123] with
 | true =>
  have d16:(E.word (n8:Nat)==[123])=true:=h15;simp only [h15,bs,reduceCtorEq] at H13;have HLTh15:=hid (gA h15);have HYh15:=hid h15;clear h15;have L:=HLTh15;have H:=H13;clear H13;exact dc
 | false =>
  have d16:(E.word (n8:Nat)==[123])=false:=h15;simp only [h15,bs,reduceCtorEq] at H13;clear h15;cases h36:E.is n8 [114,97,110,103,101] with
  | true =>
   have d37:(E.word (n8:Nat)==[114,97,110,103,101])=true:=h36;simp only [h36,bs,reduceCtorEq] at H13;have HLTh36:=hid (gA h36);have HYh36:=hid h36;clear h36;refine cA H13 ?_;intro w38 H39;clear H13;have hbx40:=H39.out.fr.cell (a:=(y8 B 0)) Cx HX.out.1;go_wp2_with fail;clear hbx40;refine cE H39 (fun hr=>HD.out.overall _ _ _ _ _ _ _ _ _ _ _ _ H39.out.rd H39.out.ex hr) (fun _ _ h=>⟨rfl,h.behind HFB.out⟩) ?_;intro q wz HA;clear H39;exact zep
  | false =>
   have d37:(E.word (n8:Nat)==[114,97,110,103,101])=false:=h36;simp only [h36,bs,reduceCtorEq] at H13;clear h36;cases h41:E.is n8 [59] with
   | true =>
    have d42:(E.word (n8:Nat)==[59])=true:=h41;simp only [h41,bs,reduceCtorEq] at H13;have HLTh41:=hid (gA h41);have HYh41:=hid h41;clear h41;have L:=HLTh41;have H:=H13;clear H13;exact dc
   | false =>
    have d42:(E.word (n8:Nat)==[59])=false:=h41;simp only [h41,bs,reduceCtorEq] at H13;clear h41;refine cA H13 ?_;intro w147 H148;clear H13;have hbxa:=H148.out.fr.cell (a:=(y8 B 0)) Cx HX.out.1;go_wp2_with fail;clear hbxa;refine TK H148 0 ?_;intro p2 w5 HP;have HQ:=FF HP (.cells #[p8 p2] 44);have hbxb:=HQ.out.fr.cell (a:=(y8 B 0)) Cx HX.out.1;have hb7:=B8 w5 (.cells #[p8 p2] 44);have hbxc:=HP.out.fr.cell (a:=(y8 B 0)) Cx HX.out.1;have hsz:=HP.out.ex.opn.blk.lt;have hpz:=HP.out.ex.opn.low;have hpl:=(Nd.later _ _ H148.out.ex HP.out.ex.fr).opn.blk.lt;go_wp2_with fail;clear hbxb hbxc;have HQF:=hid (Az hsz (Az hpz hpl));have HBC:=hid (show w5.heap.size≠c by have:=HP.out.rd.lt;omega);have HB7:=hid hb7;clear hsz hpz hpl hb7;refine yY (o:=(.cells #[p8 p2] 44)) (Bn:=w5.heap.size) HQ (fun hr=>SE HQ.out.rd HD.out .exprs Ct ⟨rfl,rfl⟩ Cw hr) HBC HB7 (fun _ _ h=>⟨rfl,h.behind HFB.out⟩) ?_;intro ql ul m8 w8 HB8 HE8 H8;clear HQ HB7;have H9:=FF H8 (.cells #[p8 ql] 44);have hlt8:w5.heap.size < w8.heap.size:=(Ak.1 HB8.out).1;have hb9s:(w8.alloc (.cells #[p8 ql] 44)).heap[w5.heap.size]?=some (.cells #[p8 p2] 44):=(((N' w8.heap.size w8).alloc (C' _) _).block _ hlt8).trans HB8.out;have hb9l:=B8 w8 (.cells #[p8 ql] 44);have hbxd:=H8.out.fr.cell (a:=(y8 B 0)) Cx HX.out.1;have hbxe:=H9.out.fr.cell (a:=(y8 B 0)) Cx HX.out.1;go_wp2_with fail;refine (pE H9.out.rd).mono ?_;rintro e w10 ⟨rfl,hb⟩;have H10:=hid (H9.out.below hb);have hb10s:w10.heap[w5.heap.size]?=some (.cells #[p8 p2] 44):=(hb.block _ Cv).trans hb9s;have hb10l:w10.heap[w8.heap.size]?=some (.cells #[p8 ql] 44):=(hb.block _ Cu).trans hb9l;have HB10:=hid (Az hb10s hb10l);have HN8:=hid hlt8;clear hb hb9s hb9l hb10s hb10l hbxd hbxe hlt8 H8 H9;have hbxf:=H10.out.fr.cell (a:=(y8 B 0)) Cx HX.out.1;go_wp2_with fail;obtain⟨φ,HPH,hφ⟩:=SS H10;obtain⟨_,_,_,hat,_⟩:=H10.out.rd.cells;have hsm:((m8:Nat):Int)<=1099511627776:=Gn
    have hwr:IntKind.i64.wrap ((m8:Int)+1)=(m8:Int)+1:=Cy
    go_cut [48] from 33 (fun v wx=>v=.bool ((E.is m8 [61]||E.is m8 [58,61])&&E.is (m8+1) [114,97,110,103,101])/\wx.heap[w5.heap.size]?=some (.cells #[p8 p2] 44)/\wx.heap[w8.heap.size]?=some (.cells #[p8 ql] 44)/\φ wx)
    case first =>
     have H10d:=yC H10;have HB10d:Hid (w10.drew.heap[w5.heap.size]?=some (.cells #[p8 p2] 44)/\w10.drew.heap[w8.heap.size]?=some (.cells #[p8 ql] 44)):=HB10;cases h1:E.is m8 [61] with
     | true =>
      have d1:(E.word (m8:Nat)==[61])=true:=h1;cases h3:E.is (m8+1) [114,97,110,103,101] with
      | true =>
       have d3:(E.word ((m8:Int)+1)==[114,97,110,103,101])=true:=Eb
       refine Ce (S:=fun w'=>w'.cell? (y8 B 0)=some (p8 c)/\w'.cell? (y8 c 3)=some (i8 (m8:Int))) Cw ?_ (fun hHeld=>?_)
       ·exact Ch
       refine tn_ 0 ?_;refine tn_ 1 ?_;refine tn_ 2 ?_;refine tm_ 3 ?_;refine tm_ 4 ?_;refine tn_ 5 ?_;refine tn_ 6 ?_;refine tn_ 7 ?_;refine tn_ 8 ?_;refine tn_ 9 ?_;refine tn_ 10 ?_;refine tn_ 11 ?_;refine tn_ 12 ?_;refine Cb (rs:=[13]) Cw Cu (Cc (o:=?_) ?_ (fun K hK=>?_) Cd)
       rotate_left
       ·exact Cf
       go_simp
       (go_at_call 21;refine NK H10d HB10d _ ?_;intro w11 HB11 H11;clear H10 H10d HB10d;have hbx11:=H11.out.fr.cell (a:=⟨B,0,none⟩) Cx HX.out.1;obtain⟨_,_,_,hat11,_⟩:=H11.out.rd.cells)
       go_wp2_with fail;refine hK.out _ _ ?_ (fun hHeld13=>?_)
       ·exact Ch
       clear hK K
       try simp only [Act.put,Q',Z',Aa]
       refine tn_ 14 ?_;refine tn_ 15 ?_;refine wpAnyH_done Cw ?_ _;go_wp2_with fail
       go_meet
       case rel=>exact⟨by rw [h1,h3];rfl,HB11.out.1,HB11.out.2,Gt⟩
      | false =>
       have d3:(E.word ((m8:Int)+1)==[114,97,110,103,101])=false:=Eb
       refine Ce (S:=fun w'=>w'.cell? (y8 B 0)=some (p8 c)/\w'.cell? (y8 c 3)=some (i8 (m8:Int))) Cw ?_ (fun hHeld=>?_)
       ·exact Ch
       refine tn_ 0 ?_;refine tn_ 1 ?_;refine tn_ 2 ?_;refine tm_ 3 ?_;refine tm_ 4 ?_;refine tn_ 5 ?_;refine tn_ 6 ?_;refine tn_ 7 ?_;refine tn_ 8 ?_;refine tn_ 9 ?_;refine tn_ 10 ?_;refine tn_ 11 ?_;refine tn_ 12 ?_;refine Cb (rs:=[13]) Cw Cu (Cc (o:=?_) ?_ (fun K hK=>?_) Cd)
       rotate_left
       ·exact Cf
       go_simp
       (go_at_call 21;refine NK H10d HB10d _ ?_;intro w11 HB11 H11;clear H10 H10d HB10d;have hbx11:=H11.out.fr.cell (a:=⟨B,0,none⟩) Cx HX.out.1;obtain⟨_,_,_,hat11,_⟩:=H11.out.rd.cells)
       go_wp2_with fail;refine hK.out _ _ ?_ (fun hHeld13=>?_)
       ·exact Ch
       clear hK K
       try simp only [Act.put,Q',Z',Aa]
       refine tn_ 14 ?_;refine tn_ 15 ?_;refine wpAnyH_done Cw ?_ _;go_wp2_with fail
       go_meet
       case rel=>exact⟨by rw [h1,h3];rfl,HB11.out.1,HB11.out.2,Gt⟩
     | false =>
      have d1:(E.word (m8:Nat)==[61])=false:=h1;cases h2:E.is m8 [58,61] with
      | true =>
       have d2:(E.word (m8:Nat)==[58,61])=true:=h2;cases h3:E.is (m8+1) [114,97,110,103,101] with
       | true =>
        have d3:(E.word ((m8:Int)+1)==[114,97,110,103,101])=true:=Eb
        refine Ce (S:=fun w'=>w'.cell? (y8 B 0)=some (p8 c)/\w'.cell? (y8 c 3)=some (i8 (m8:Int))) Cw ?_ (fun hHeld=>?_)
        ·exact Ch
        refine tn_ 0 ?_;refine tn_ 1 ?_;refine tn_ 2 ?_;refine tn_ 3 ?_;refine tn_ 4 ?_;refine tn_ 5 ?_;refine tn_ 6 ?_;refine tn_ 7 ?_;refine tn_ 8 ?_;refine tn_ 9 ?_;refine tn_ 10 ?_;refine tn_ 11 ?_;refine tn_ 12 ?_;refine Cb (rs:=[13]) Cw Cu (Cc (o:=?_) ?_ (fun K hK=>?_) Cd)
        rotate_left
        ·exact Cf
        go_simp
        (go_at_call 21;refine NK H10d HB10d _ ?_;intro w11 HB11 H11;clear H10 H10d HB10d;have hbx11:=H11.out.fr.cell (a:=⟨B,0,none⟩) Cx HX.out.1;obtain⟨_,_,_,hat11,_⟩:=H11.out.rd.cells)
        go_wp2_with fail;refine hK.out _ _ ?_ (fun hHeld13=>?_)
        ·exact Ch
        clear hK K
        try simp only [Act.put,Q',Z',Aa]
        refine tn_ 14 ?_;refine tn_ 15 ?_;refine wpAnyH_done Cw ?_ _;go_wp2_with fail
        go_meet
        case rel=>exact⟨by rw [h1,h2,h3];rfl,HB11.out.1,HB11.out.2,Gt⟩
       | false =>
        have d3:(E.word ((m8:Int)+1)==[114,97,110,103,101])=false:=Eb
        refine Ce (S:=fun w'=>w'.cell? (y8 B 0)=some (p8 c)/\w'.cell? (y8 c 3)=some (i8 (m8:Int))) Cw ?_ (fun hHeld=>?_)
        ·exact Ch
        refine tn_ 0 ?_;refine tn_ 1 ?_;refine tn_ 2 ?_;refine tn_ 3 ?_;refine tn_ 4 ?_;refine tn_ 5 ?_;refine tn_ 6 ?_;refine tn_ 7 ?_;refine tn_ 8 ?_;refine tn_ 9 ?_;refine tn_ 10 ?_;refine tn_ 11 ?_;refine tn_ 12 ?_;refine Cb (rs:=[13]) Cw Cu (Cc (o:=?_) ?_ (fun K hK=>?_) Cd)
        rotate_left
        ·exact Cf
        go_simp
        (go_at_call 21;refine NK H10d HB10d _ ?_;intro w11 HB11 H11;clear H10 H10d HB10d;have hbx11:=H11.out.fr.cell (a:=⟨B,0,none⟩) Cx HX.out.1;obtain⟨_,_,_,hat11,_⟩:=H11.out.rd.cells)
        go_wp2_with fail;refine hK.out _ _ ?_ (fun hHeld13=>?_)
        ·exact Ch
        clear hK K
        try simp only [Act.put,Q',Z',Aa]
        refine tn_ 14 ?_;refine tn_ 15 ?_;refine wpAnyH_done Cw ?_ _;go_wp2_with fail
        go_meet
        case rel=>exact⟨by rw [h1,h2,h3];rfl,HB11.out.1,HB11.out.2,Gt⟩
      | false =>
       have d2:(E.word (m8:Nat)==[58,61])=false:=h2;refine Ce (S:=fun w'=>w'.cell? (y8 B 0)=some (p8 c)/\w'.cell? (y8 c 3)=some (i8 (m8:Int))) Cw ?_ (fun hHeld=>?_)
       ·exact Ch
       refine tn_ 0 ?_;refine tn_ 1 ?_;refine tn_ 2 ?_;refine tn_ 3 ?_;refine tn_ 4 ?_;refine tn_ 5 ?_;refine tn_ 6 ?_;refine tm_ 7 ?_;refine tm_ 8 ?_;refine tm_ 9 ?_;refine tm_ 10 ?_;refine tm_ 11 ?_;refine tm_ 12 ?_;refine tm_ 13 ?_;refine tm_ 14 ?_;refine tn_ 15 ?_;refine wpAnyH_done Cw ?_ _;go_wp2_with fail
       go_meet
       case rel=>exact⟨by rw [h1,h2];rfl,HB10d.out.1,HB10d.out.2,by rw [HPH.out];exact H10d.out⟩
    case rest =>
     clear hat hsm hwr hφ hbxf H10 HB10;obtain⟨rfl,hb1,hb2,hph⟩:=hcut;have H11:=xU HPH hph;clear hph;simp only [Ar] at H11;have hcs:wc.cell? (y8 w5.heap.size 0)=some (p8 p2):=by simp [World.cell?,hb1]
     have hcl:wc.cell? (y8 w8.heap.size 0)=some (p8 ql):=by simp [World.cell?,hb2]
     cases hR:((E.is m8 [61]||E.is m8 [58,61])&&E.is (m8+1) [114,97,110,103,101]) with
     | true =>
      have HLT9:Hid (m8 < E.l.length):=by rw [Bz] at hR;have:=gA hR.2;exact hid Cs
      simp only [hR,Be] at H11;clear hR;have H12:=oX H148 H11;clear H11 H148;have H13:=gG (ps':=[ql]) (ts':=[ul]) H12 (fun _ h=>⟨h.2.1,trivial⟩);clear H12;obtain⟨_,_,_,hat12,_⟩:=H13.out.rd.cells;have hsm:((m8:Nat):Int)<=1099511627776:=by have:=H13.out.rd.at_;have:=H13.out.rd.lie.small;omega
      obtain⟨_,hk12,hf12,_,_⟩:=H13.out.ex.opn.blk.cells;have hfz1:=H13.out.ex.opn.blk.free 1;have hpne:w8.heap.size≠p:=by have h1:=HN8.out;have h2:=HQF.out.2.2;have h3:=HQF.out.1;omega
      have hcne:w8.heap.size≠c:=by have h1:=HN8.out;have h2:=H13.out.cw;have h3:=HQF.out;have h4:=H13.out.ex.opn.low;omega
      have hbx13:=H13.out.fr.cell (a:=(y8 B 0)) Cx HX.out.1;have H14:=oD H13 (m8:Int);clear H13;have hbx14:=H14.out.fr.cell (a:=(y8 B 0)) Cx HX.out.1;have hfz3:=H14.out.rd.free 3;obtain⟨_,_,_,hat13,_⟩:=H14.out.rd.cells;have H15:=ZA H14 HLT9;clear H14;obtain⟨n6,hm⟩:∃ m,m=m8+1:=⟨_,rfl⟩;simp only [<- hm] at H15;clear hm;have hcl2:=kH (N:=c) (j:=3) (x:=i8 ((m8:Int)+1)) (a:=(y8 w8.heap.size 0)) hcne (kH (N:=p) (j:=1) (x:=i8 (m8:Int)) (a:=(y8 w8.heap.size 0)) hpne hcl);have hbx15:=H15.out.fr.cell (a:=(y8 B 0)) Cx HX.out.1;go_wp2_with fail;generalize ((wc.setCell (y8 p 1) (i8 (m8:Int))).setCell (y8 c 3) (i8 ((m8:Int)+1)))=w15 at *;refine cE H15 (fun hr=>HD.out.overall _ _ _ _ _ _ _ _ _ _ _ _ H15.out.rd H15.out.ex hr) (fun _ _ h=>⟨rfl,h.behind HFB.out⟩) ?_;intro q wz HA;clear H15;clear hat12 hk12 hf12 hfz1 hfz3 hat13 hcl hcl2 hbx13 hbx14 hbx15 hcs hb1 hb2;exact zep
     | false =>
      simp only [hR,Ba,Bf] at H11;clear hR;have HGR:=hid (H11.out.rd.guard HBC.out hb1);have HND:=hid (H11.out.ex.guard (o:=(.cells #[p8 p2] 44)) (b:=w5.heap.size) (by have h1:=HQF.out.1;omega) Dl);have hbx12:=H11.out.fr.cell (a:=(y8 B 0)) Cx HX.out.1;have HCC:=hid (Az hbx12 (Az hcs hcl));go_wp2_with fail;clear hbx12 hcs hcl;refine nX (Bn:=w5.heap.size) (o:=(.cells #[p8 p2] 44)) H148 H11 (fun hr=>QO HGR.out 243 #[] #[p8 B,p8 w5.heap.size,p8 w8.heap.size] (fun _=>cF Cw _ _) _ (fun q=>q=p2) w147 H11.out.ex.fr H11.out.ex.cw
       (fun wq hR hF=>LY (hF.cell (a:=(y8 B 0)) Cx HCC.out.1) (hF.cell (a:=(y8 w5.heap.size 0)) (by simpa using HBC.out) HCC.out.2.1) (hF.cell (a:=(y8 w8.heap.size 0)) (by have h1:=HN8.out;have h2:=HGR.out.lt;have h3:=HQF.out;have h4:=H148.out.cw;have h5:=H148.out.fr.size;simp;omega) HCC.out.2.2) ((HGG.out (E.guard _ _) rfl).rest n8 ul c m8 true w147 wq p2 _ ql hR (Nd.later _ _ HND.out hF) hr))) (fun _ _ h=>⟨rfl,h.behind HFB.out⟩) ?_
      intro u9 n9 w13 HB13 HE13 H13;clear H148 H11 HGR HND HCC hb1 hb2;have HSH:=hid (HSO.out.t (.rest n8 ul) m8 true (HSO.out.t .exprs _ true trivial ul m8 HE8.out) u9 n9 HE13.out);clear HE13;have hb13:=HB13.out;have hcs13:w13.cell? (y8 w5.heap.size 0)=some (p8 p2):=by simp [World.cell?,hb13]
      have hfz13:w13.frozen? (y8 w5.heap.size 0)=false:=by simp [World.frozen?,hb13]
      have hsame:=yV hb13;have hbx13:=H13.out.fr.cell (a:=(y8 B 0)) Cx HX.out.1;have hbx14:=hsame.symm ▸ hbx13;go_wp2_with fail
      try rw [hsame]
      clear hsame hfz13 hcs13 hbx13 hbx14 hb13;refine fX H13 HB13 ?_;intro w14 HB14 H14;clear H13 HB13;have hb14:=HB14.out;have hcs14:w14.cell? (y8 w5.heap.size 0)=some (p8 p2):=by simp [World.cell?,hb14]
      clear hb14;cases h9:E.is n9 [59] with
      | true =>
       have d9:(E.word (n9:Nat)==[59])=true:=h9;simp only [h9,bs,reduceCtorEq] at H14;clear h9;have H:=gG (ps':=[p2]) (ts':=[u9]) H14 (fun _ h=>⟨h.2.1,trivial⟩);clear H14;exact dr
      | false =>
       have d9:(E.word (n9:Nat)==[59])=false:=h9;simp only [h9,bs,reduceCtorEq] at H14;clear h9;have hbx252:=H14.out.fr.cell (a:=(y8 B 0)) Cx HX.out.1;go_wp2_with fail;clear hbx252;refine WL H14 H14.out.ex.kids.2.1 HSH (fun _ _ h=>⟨rfl,h.behind HFB.out⟩) ?_;intro q255 t256 n254 w253 H257;clear H14;have hbx258:=H257.out.fr.cell (a:=(y8 B 0)) Cx HX.out.1;go_wp2_with fail;clear hbx258;refine IA H257 0 ?_;intro q260 w259 H261;clear H257;have H262:=gG (ps':=[_,q255,q260]) (ts':=[_,t256,vA 0 n254]) H261 (fun _ h=>⟨h.1,h.2.2.1,h.2.2.2.1,trivial⟩);clear H261;have hbx263:=H262.out.fr.cell (a:=(y8 B 0)) Cx HX.out.1;go_wp2_with fail;have H264:=yC H262;clear H262
       go_region_held (fun w'=>w'.cell? ⟨B,0,none⟩=some (p8 c)) (first|(first|assumption|exact aA ((N' _ _).alloc (C' _) _) ‹_›)) (first|(go_at_call 128;refine jA (F:=.block) H264 HD Ct ⟨rfl,rfl⟩ (fun _ _ h=>⟨rfl,h.behind HFB.out⟩) ?_;intro q267 t268 n266 w265 H269;clear H264;have hbx270:=H269.out.fr.cell (a:=⟨B,0,none⟩) Cx HX.out.1)|(go_at_call 80;refine (eA H269 Cu).mono ?_;rintro e wz ⟨rfl,HZ⟩;clear H269;have hbx271:=(Ans.fr HZ.out).cell (a:=⟨B,0,none⟩) Cx HX.out.1))
       go_wp2_with fail;go_ret;exact HZ.out.behind HFB.out
end
