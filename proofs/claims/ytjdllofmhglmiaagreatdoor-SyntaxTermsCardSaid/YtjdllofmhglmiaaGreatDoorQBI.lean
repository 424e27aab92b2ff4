import Derived.Test.YtjdllofmhglmiaaGreatDoorQBH
namespace Go.Proofs.YtjdllofmhglmiaaGreatDoor
open Lib(hid)
set_option linter.all false
set_option maxHeartbeats 40000000
set_option maxRecDepth 100000
section
open Go.RowKit
variable {E:Ev}{S:AB}{c n k:Nat}{g:Bool}{w w0 w1 w2:World}{v:Value}{ps:List Nat}{ts:List Tr}{rs:List Nat}{us:List Tr}{T X:R Tr}
theorem CM (H:∀ j,j<=k->aB E (spec E.toEnv j)) (hkk:k<=1000000000000) (h:Rd E c n g w) (hr:(spec E.toEnv k).t (.stmtsMore []) n g≠.out) :
  Calls Tryz.prog 72 #[p8 c] w (Ans E c g ((spec E.toEnv k).t (.stmtsMore []) n g) w):=by
 have HA:=hid H;clear H;have H:=iK (Sx.start h hr rfl);clear h hr
 go_in
 go_wp2_with fail
 go_loopg [3] k (fun j v wr=>tL E c g w ((spec E.toEnv k).t (.stmtsMore []) n g) F.stmtsMore k j v wr)
 case atStart=>exact⟨n,[],[],Cu,H⟩
 case round =>
  clear H;obtain⟨n,acc,ps,hl,H⟩:=hrel;have HL:=hid hl;clear hl;rcases gk with _|j
  ·exact zcd
  replace H:Hid (Sx _ _ _ _ _ _ _ (dC E.toEnv (spec E.toEnv j) acc n g) _):=H
  conv at H=>arg 1;arg 8;unfold dC
  have HD:=hid (HA.out j ol);have KL:Kd 13 13:=rfl;exact dr
end
section
open Go.RowKit
variable {E:Ev}{S:AB}{c n k:Nat}{g:Bool}{w w0 w1 w2:World}{v:Value}{ps:List Nat}{ts:List Tr}{rs:List Nat}{us:List Tr}{T X:R Tr}
def cO (E:Ev) (c:Nat) (g:Bool) (w wB:World) (T:R Tr) (mk:List Tr->F) (k j:Nat) (v:Value) (wr:World):Prop :=
 ∃ n acc ps,ps.length+j<=k+1/\Hid (Sx E c n g w (Rw E c wB v ps acc [] []) T ((spec E.toEnv j).t (mk acc) n g) wr)
theorem ZZ0 {E:Env}{n:Nat}{ws:List UInt8}{b:Bool} (h:E.is n ws=b):(E.word (n:Nat)==ws)=b:=h
theorem rn_ {P:Prop} (hh:P:=by
 have d:=ZZ0 h;simp only [h,bs,reduceCtorEq] at H;have HLT:=hid (gA h);clear h;go_wp2_with fail;refine cA H ?_;intro w H;go_wp2_with fail
 first
 | refine iH (F:=.group) H (hid (HA.out i ol)) Ct rfl HLT up ?_
 | refine iF (F:=.fn) H (hid (HA.out i ol)) Ct ⟨rfl,rfl⟩ up ?_
 intro q u n w H;go_wp2_with (at_builtin;refine iC rfl _ _ rfl H HO.out.fr.size rfl rfl ol ?_);intro v w H;go_wp2_with fail;refine FA H up ?_;intro n w H;go_wp2_with fail;go_roundg i
 case measure=>omega
 case rel=>exact⟨n,_,_,ol,H⟩):P:=hh
theorem wT (H:∀ j,j<=k->aB E (spec E.toEnv j)) (hkk:k<=1000000000000) (h:Rd E c 0 g w) (hr:EF E.toEnv (spec E.toEnv k) 0 g≠.out) :
  Calls Tryz.prog 42 #[p8 c] w (Ans E c g (EF E.toEnv (spec E.toEnv k) 0 g) w):=by
 have HA:=hid H;clear H;have H:=Sx.start h hr rfl
 conv at H=>arg 1;arg 8;unfold EF
 clear h hr
 go_in
 go_wp2_with fail;refine yB H 1 ?_;intro p w1 H;go_wp2_with fail;refine FA H up ?_;intro n w2 H;go_wp2_with fail;refine lG H up ?_;intro q3 t3 n w3 H;go_wp2_with fail;refine FA H up ?_;intro n4 w4 HO;have H4:=gX HO;clear H;go_wp2_with fail
 go_loopg [5] k (fun j v wr=>cO E c g w w4 (EF E.toEnv (spec E.toEnv k) 0 g) (F.fileImports t3) k j v wr)
 case atStart=>exact⟨n4,[],[],Cu,H4⟩
 case round =>
  clear H4;obtain⟨n,acc,ps,hl,H⟩:=hrel;have HL:=hid hl;clear hl;rcases gk with _|i
  ·exact zcd
  replace H:Hid (Sx _ _ _ _ _ _ _ (lB E.toEnv (spec E.toEnv i) t3 acc n g) _):=H
  conv at H=>arg 1;arg 8;unfold lB
  cases h:E.is n [105,109,112,111,114,116]
  rotate_left
  ·exact rn_
  have d:=ZZ0 h;simp only [h,bs,reduceCtorEq] at H;clear h;go_wp2_with fail;refine cA H ?_;intro wa H;go_wp2_with fail;refine VJ HO (k2:=2) H ol ?_;intro q7 w7 HM;clear H HO;have H7:=gX HM;have HO:=HM;have HJ:Hid (i<=k):=hid ol;clear HL HM;go_wp2_with fail
  go_loopg [6] i (fun j2 v wr=>cO E c g w w7 (EF E.toEnv (spec E.toEnv k) 0 g) (F.fileDecls t3 (xC 2 acc n)) i j2 v wr)
  case atStart=>exact⟨n,[],[],Cu,H7⟩
  case round =>
   clear H7;obtain⟨n8,acc2,ps2,hl,H⟩:=hrel;have HL:=hid hl;clear hl;rcases gk with _|i
   ·exact zcd
   replace H:Hid (Sx _ _ _ _ _ _ _ (eC E.toEnv (spec E.toEnv i) t3 (xC 2 acc n) acc2 n8 g) _):=H
   conv at H=>arg 1;arg 8;unfold eC
   cases h6:E.is n8 [99,111,110,115,116]
   rotate_left
   ·have h:=h6;clear h6;exact rn_
   cases h7:E.is n8 [118,97,114]
   rotate_left
   ·have d6:=ZZ0 h6;simp only [h6,bs,reduceCtorEq] at H;clear h6;have h:=h7;clear h7;exact rn_
   cases h8:E.is n8 [116,121,112,101]
   rotate_left
   ·have d6:=ZZ0 h6;have d7:=ZZ0 h7;simp only [h6,h7,bs,reduceCtorEq] at H;clear h6 h7;have h:=h8;clear h8;exact rn_
   have d6:=ZZ0 h6;have d7:=ZZ0 h7;have d8:=ZZ0 h8;simp only [h6,h7,h8,bs,reduceCtorEq] at H;clear h6 h7 h8;cases h:E.is n8 [102,117,110,99]
   rotate_left
   ·exact rn_
   have d:=ZZ0 h;simp only [h,bs,reduceCtorEq] at H;clear h;go_wp2_with fail;refine cA H ?_;intro w H;go_wp2_with fail;refine VJ HO (k2:=2) H ol ?_;intro q w H;go_wp2_with fail;refine (eA H Cu).mono ?_;rintro e w ⟨rfl,HZ⟩;go_wp2_with fail;go_ret;exact HZ.out
end
section
open Go.RowKit
variable {E:Ev}{S:AB}{c n:Nat}{g:Bool}{w:World}
theorem nE (w:World) (v:Value) (t:TypeId):(w.alloc (.cells #[v] t)).cell? (y8 w.heap.size 0)=some v:=by
 have h:=B8 w (Obj.cells #[v] t);unfold World.cell?;rw [h]
 rfl
theorem Ans.fr {r:R Tr}{w0:World}{e:Ending}{w':World} (h:Ans E c g r w0 e w'):Fr [c] w0 w':=by
 cases r with
 | ok t m=>obtain⟨_,_,_,_,h⟩:=h;exact h
 | bad k=>exact h.2.2
 | out=>exact h.elim
variable {k B:Nat}
theorem LN (H:aB E S) (h:Rd E c n g w) (hX:w.cell? (y8 B 0)=some (p8 c)/\c < B) (hr:RD S n g≠.out) :
  Calls Tryz.prog 162 #[p8 B] w (Ans E c g (RD S n g) w):=by
 have HD:=hid H;clear H;have H:=Sx.start h hr rfl
 conv at H=>arg 1;arg 8;unfold RD
 have HX:=hid hX;clear hX;clear h hr;have KO:Kd 17 17:=rfl
 go_in
 exact dr
theorem El.tparam (H:∀ j,j<=k->aB E (spec E.toEnv j)) (hX:w.cell? (y8 B 0)=some (p8 c)) (hcB:c < B):El E c g k w .tparam 162 #[] #[p8 B]:=by
 refine⟨fun w1=>cF Cw _ _,Cu,fun j n1 w1 hj hR hF hr=>?_⟩;cases j with
 | zero=>exact absurd rfl hr
 | succ i=>exact LN (H i Cs) hR ⟨hF.cell (a:=(y8 B 0)) Cv hX,hcB⟩ hr
theorem iO (H:∀ j,j<=k->aB E (spec E.toEnv j)) (hkk:k<=1099511627776) (h:Rd E c n g w) (hr:XC E.toEnv (spec E.toEnv k) n g≠.out) :
  Calls Tryz.prog 127 #[p8 c] w (Ans E c g (XC E.toEnv (spec E.toEnv k) n g) w):=by
 have HA:=hid H;have HD:=hid (H k (C' _));clear H;have hB:=(N' w.heap.size w).alloc (C' _) (Obj.cells #[p8 c] 47);have hbx:=nE w (p8 c) 47;have HX:=hid (Az hbx h.lt);have HFB:=hid (lA c hB);have H:=Sx.start (h.below hB) hr rfl
 conv at H=>arg 1;arg 8;unfold XC
 have hsm:=qQ4 H;have hwr:IntKind.i64.wrap ((n:Int)+1)=(n:Int)+1:=Cy
 clear h hr hB;have RR:True:=trivial;have KO:Kd 16 16:=rfl
 go_in
 go_wp2_with fail;generalize w.alloc (.cells #[p8 c] 47)=wB at *;generalize w.heap.size=B at *;clear hbx;exact dc
end
section
open Go.RowKit
variable {E:Ev}{S:AB}{c n:Nat}{g:Bool}{w:World}
variable {k B:Nat}
theorem nS (h:Rd E c n g w) (f:FuncId) (cap:Array Value) (hcf:∀ w1,Sem.run Tryz.prog (callFunc f (#[]++cap)) w1=.ok (.enter f (#[]++cap)) w1) {r:R Tr}
  (H:∀ w1,Rd E c n false w1->Fr [c] w w1->Calls Tryz.prog f (#[]++cap) w1 (Ans E c false r w1)) :
  Calls Tryz.prog 69 #[p8 c,.func (.func f) #[] cap] w (Ans E c g r w) :=
 (GG h f #[] cap hcf r (fun _=>True) w (Fr.refl _ _) h.lt (fun w1 hR hF=>(H w1 hR hF).mono (fun e w' hA=>⟨fun _ _=>trivial,hA.behind hF⟩))).mono (fun e w' hA=>hA.2)
theorem iL (H:∀ j,j<=k->aB E (spec E.toEnv j)) (hkk:k<=1099511627776) (h:Rd E c n false w) (hX:w.cell? (y8 B 0)=some (p8 c)/\c < B) (hr:OB E.toEnv (spec E.toEnv k) n≠.out) :
  Calls Tryz.prog 235 #[p8 B] w (Ans E c false (OB E.toEnv (spec E.toEnv k) n) w):=by
 have HA:=hid H;have HD:=hid (H k (C' _));clear H;have H0:=Sx.start h hr rfl
 conv at H0=>arg 1;arg 8;unfold OB
 have HX:=hid hX;clear hX
 try simp only [bs,reduceCtorEq] at H0
 clear h hr
 go_in
 have hbx1:=H0.out.fr.cell (a:=(y8 B 0)) Cx HX.out.1;go_wp2_with fail;have H2:=yC H0;clear H0
 go_region_held (fun w'=>w'.cell? (y8 B 0)=some (p8 c)) (first|(first|assumption|exact aA ((N' _ _).alloc (C' _) _) ‹_›)) (first|(go_at_call 125;refine xG H2 hkk (El.meth HA.out .element Ct Cu Cw) (fun _ _ h=>⟨rfl,h⟩) ?_;intro v5 r6 t7 n4 w3 hl H8;have HLH8:=hid (An hl hkk);clear hl;have hbx9:=H8.out.fr.cell (a:=(y8 B 0)) Cx HX.out.1)|(go_at_call 78;refine LE (k2:=12) H8 (by have:=HLH8.out;simpa using this) ?_;intro q11 w10 H12;clear H8;have hbx13:=H12.out.fr.cell (a:=(y8 B 0)) Cx HX.out.1))
 have hbx14:=H12.out.fr.cell (a:=(y8 B 0)) Cx HX.out.1;go_wp2_with fail;clear hbx14;refine FA H12 (fun _ _ h=>⟨rfl,h⟩) ?_;intro n16 w15 H17;clear H12;have hbx18:=H17.out.fr.cell (a:=(y8 B 0)) Cx HX.out.1;go_wp2_with fail;clear hbx18;go_ret;exact (RE (rs:=[]) (us:=[]) H17 H2.out.fr.size)
theorem EM (H:∀ j,j<=k->aB E (spec E.toEnv j)) (hkk:k<=1099511627776) (h:Rd E c n g w) (hr:OB E.toEnv (spec E.toEnv k) n≠.out) :
  Calls Tryz.prog 195 #[p8 c] w (Ans E c g (OB E.toEnv (spec E.toEnv k) n) w):=by
 have HA:=hid H;have HD:=hid (H k (C' _));clear H;have hB:=(N' w.heap.size w).alloc (C' _) (Obj.cells #[p8 c] 47);have hbx:=nE w (p8 c) 47;have HX:=hid (Az hbx h.lt);have HFB:=hid (lA c hB);have H0:=Sx.start (h.below hB) hr rfl
 skip
 try simp only [bs,reduceCtorEq] at H0
 clear h hr hB
 go_in
 go_wp2_with fail;generalize w.alloc (.cells #[p8 c] 47)=wB at *;generalize w.heap.size=B at *;clear hbx;refine pG H0 (fun hr=>nS H0.out.rd 235 #[p8 B] (fun _=>cF Cw _ _) (fun w1 hR hF=>iL HA.out hkk hR ⟨hF.cell (a:=(y8 B 0)) Cx (H0.out.fr.cell (a:=(y8 B 0)) Cx HX.out.1),HX.out.2⟩ hr)) (fun _ _ h=>⟨rfl,h.behind HFB.out⟩) ?_;intro q wz HA;clear H0;go_wp2_with fail;go_ret;exact HA.out.behind HFB.out
end
section
open Go.RowKit
variable {E:Ev}{S:AB}{c n k:Nat}{g:Bool}{w w0 w1 w2:World}{v:Value}{ps:List Nat}{ts:List Tr}{rs:List Nat}{us:List Tr}{T X:R Tr}
theorem oN {p:Nat}{kd:UInt8}{wd:Int}{f t:Nat}{kv:Value}{ps0:List Nat}{ts0:List Tr}{ops:Array Oper}{o:Oper}{a:Act}{K:Act->World->Prop}{Q:Exit->Act->World->Prop}{E':Prop} (hgd:o.guard=none) (s x:Operand)
  (ho:o.op=.call { callee:=.builtin .append,args:=#[s,x],argTypes:=#[52,52] }) {q:Nat}{u:Tr}
  (h:Hid (Sx E c n g w0 (Nd E c w1 p kd wd f t kv ps0 ts0 [q] [u]) T X w)) (h01:w0.heap.size<=w1.heap.size) (hs:a.eval s=kv) (hx:a.eval x=.slice (some (y8 w.heap.size 0)) 1 1) (hsm:ps0.length<=1000)
  (hQ:∀ va vc w',Hid (Sx E c n g w0 (Pu E c w1 p kd wd f t (.slice va (ps0.length+1) vc) (ps0++[q]) (ts0++[u])) T X w')->K (a.put o.dst (.slice va (ps0.length+1) vc)) w') :
  if Region.wanted o (yielded ops a.tmps)=true then Oper.wp Tryz.prog o a (w.alloc (.cells #[p8 q] 44)) K Q else E':=by
 obtain⟨iP,hiP,hz0,hz1,hz2⟩:=info_parts Tryz.infoP;have hh:=h.out;have hz:=hh.ex.fr.size;have ha5:(w.alloc (Obj.cells #[p8 q] 44)).heap.size=w.heap.size+1:=Cu
 refine step_append_lies _ hgd s x 52 ho w1.heap.size 44 iP _ 1 8 Tryz.underlying52 hiP hz0 hz1 hz2 rfl Ct kv ps0.length (GB ps0) hs (hh.ex.opn.row.alloc _) (y8 w.heap.size 0) 1 1 (GB [q]) hx rfl
  (At (cs:=#[p8 q]) (t:=44) (fr:=(0,0)) (B8 w _)) (zG _) Ct Da Cs Cs _ rfl ?_
 intro g' cap w' hown hgrow hat _;exact hQ _ _ w' (DU h h01 hown hgrow (hat.imp (fun e=>Eu) (fun e=>Eu)))
theorem rgK {P:Prop} (hh:P:=by
 obtain⟨_,_,_,_,hk4⟩:=H.out.ex.opn.blk.cells;have H:=yC H
 go_region_law ((first|(go_simp;(first|(go_at_call 69;refine TB H (fun hr=>PK H.out.rd HD.out .expr Ct ⟨rfl,rfl⟩ Cw hr) up ?_)|(go_at_call 39;refine jA (F:=.typ) H HD Ct ⟨rfl,rfl⟩ up ?_));intro q u n w H;obtain⟨_,_,_,_,hk46⟩:=H.out.ex.opn.blk.cells;have hk47:=fun o=>aA ((N' w.heap.size w).alloc (C' _) o) hk46)|(refine oN Db _ _ Db H (C' _) Db Db Cu ?_;intro va vc w H;obtain⟨kv9,hb9⟩:=H.out.ex.blk;have hfz:=hb9.free 4;obtain⟨_,_,_,_,hk49⟩:=hb9.cells)))
 all_goals
  have H:=VL H;go_wp2_with fail;clear hfz hk49 hk46 hk47 hb9;exact dr):P:=hh
theorem jW {fr t0 p:Nat} (H:aB E S) (h:Rd E c n false w) (hnd:Nd E c w0 p 0 (-1) fr t0 OE [] [] [] [] w) (hr:NJ E.toEnv S fr n≠.out) :
  Calls Tryz.prog 110 #[p8 c,p8 p] w (Ans E c false (NJ E.toEnv S fr n) w0):=by
 have HD:=hid H;clear H;have H:=Sx.startN h hnd hr rfl
 conv at H=>arg 1;arg 8;unfold NJ wrapT
 clear h hnd hr;have K1:Kd 43 43:=rfl;have K2:Kd 42 42:=rfl;have RK:True:=trivial;have K3:Kd 41 41:=rfl
 go_in
 exact dr
theorem cJ.of {p:Nat} (h:Ans E c g T w0 (.returned (p8 p)) w):cJ E c g T w0 p (.returned (.tuple #[])) w:=by
 cases T with
 | ok t m=>obtain⟨q,hq,a,b,d⟩:=h;cases hq;exact⟨rfl,a,b,d⟩
 | bad k=>cases h.1
 | out=>exact h
theorem cJ.up {p m:Nat} (h:Ans E c g T w0 (Up m) w):cJ E c g T w0 p (Up m) w:=by
 cases T with
 | ok t m=>obtain⟨q,hq,a,b,d⟩:=h;cases hq
 | bad k=>exact h
 | out=>exact h
theorem CV {fr t0 p q:Nat}{x:Tr}{kv:Value} (H:aB E S) (h:Rd E c n g w) (hn:n < E.l.length) (hnd:Nd E c w0 p 0 (-1) fr t0 kv [q] [x] [] [] w) (hr:SJ E.toEnv S fr x n g≠.out) :
  Calls Tryz.prog 189 #[p8 c,p8 p] w (cJ E c g (SJ E.toEnv S fr x n g) w0 p):=by
 have HD:=hid H;clear H;have L:=hid hn;clear hn;have H:=Sx.startN h hnd hr rfl
 conv at H=>arg 1;arg 8;unfold SJ
 simp only [show n+2=n+1+1 from rfl,show n+3=n+1+1+1 from rfl] at H;clear h hnd hr;have K1:Kd 29 29:=rfl;have K2:Kd 33 33:=rfl;have RK:True:=trivial;have K3:Kd 32 32:=rfl
 go_in
 exact dr
end
