import Derived.Test.YtfmpphplbdojbaaGreatDoorQAK
namespace Go.Proofs.YtfmpphplbdojbaaGreatDoor
open Lib(hid)
set_option linter.all false
set_option maxHeartbeats 40000000
set_option maxRecDepth 100000
section
open Go.RowKit
variable {E:Ev}{S:AB}{c n k:Nat}{g:Bool}{w w0 w1 w2:World}{v:Value}{ps:List Nat}{ts:List Tr}{rs:List Nat}{us:List Tr}{T X:R Tr}
theorem oN {p:Nat}{kd:UInt8}{wd:Int}{f t:Nat}{kv:Value}{ps0:List Nat}{ts0:List Tr}{ops:Array Oper}{o:Oper}{a:Act}{K:Act->World->Prop}{Q:Exit->Act->World->Prop}{E':Prop} (hgd:o.guard=none) (s x:Operand)
  (ho:o.op=.call { callee:=.builtin .append,args:=#[s,x],argTypes:=#[59,59] }) {q:Nat}{u:Tr}
  (h:Hid (Sx E c n g w0 (Nd E c w1 p kd wd f t kv ps0 ts0 [q] [u]) T X w)) (h01:w0.heap.size<=w1.heap.size) (hs:a.eval s=kv) (hx:a.eval x=.slice (some ⟨w.heap.size,0,none⟩) 1 1) (hsm:ps0.length<=1000)
  (hQ:∀ va vc w',Hid (Sx E c n g w0 (Pu E c w1 p kd wd f t (.slice va (ps0.length+1) vc) (ps0++[q]) (ts0++[u])) T X w')->K (a.put o.dst (.slice va (ps0.length+1) vc)) w') :
  if Region.wanted o (yielded ops a.tmps)=true then Oper.wp Tryz.prog o a (w.alloc (.cells #[.pointer (some ⟨q,0,none⟩)] 51)) K Q else E':=by
 obtain⟨iP,hiP,hz0,hz1,hz2⟩:=info_parts Tryz.infoP;have hh:=h.out;have hz:=hh.ex.fr.size;have ha5:(w.alloc (Obj.cells #[.pointer (some ⟨q,0,none⟩)] 51)).heap.size=w.heap.size+1:=Cm
 refine step_append_lies _ hgd s x 59 ho w1.heap.size 51 iP _ 1 8 Tryz.underlying59 hiP hz0 hz1 hz2 rfl Ch kv ps0.length (GB ps0) hs (hh.ex.opn.row.alloc _) ⟨w.heap.size,0,none⟩ 1 1 (GB [q]) hx rfl
  (Aq (cs:=#[.pointer (some ⟨q,0,none⟩)]) (t:=51) (fr:=(0,0)) (heap_alloc_new w _)) (zG _) Ch Cu Cf Cf _ rfl ?_
 intro g' cap w' hown hgrow hat _;exact hQ _ _ w' (DU h h01 hown hgrow (hat.imp (fun e=>Ed) (fun e=>Ed)))
theorem jW {fr t0 p:Nat} (H:aB E S) (h:Rd E c n false w) (hnd:Nd E c w0 p 0 (-1) fr t0 OE [] [] [] [] w) (hr:NJ E.toEnv S fr n≠.out) :
  Calls Tryz.prog 145 #[.pointer (some ⟨c,0,none⟩),.pointer (some ⟨p,0,none⟩)] w (Ans E c false (NJ E.toEnv S fr n) w0):=by
 have HD:=hid H;clear H;have H0:=Sx.startN h hnd hr rfl
 conv at H0=>arg 1;arg 8;unfold NJ xE
 clear h hnd hr;have hfz:=H0.out.ex.opn.blk.free 0;obtain⟨hk0,_,_,_,_⟩:=H0.out.ex.opn.blk.cells;have H1:Hid (Sx _ _ _ _ _ _ _ _ (w.setCell ⟨p,0,none⟩ (.int .u8 43))):=dB H0 43;clear H0;go_enter Tryz.func145,Tryz.ntmps145;go_wp2_with fail;generalize w.setCell ⟨p,0,none⟩ (.int .u8 43)=w1 at *;clear hfz hk0;cases h1:E.is n [93] with
 | true =>
  simp only [h1,if_true] at H1;refine vE H1 h1 ?_;intro n2 w2 hm H2;clear H1 h1;simp only [<- hm] at H2;clear hm;go_wp2_with fail;refine cE H2 (fun hr=>ZE HD.out H2.out.rd H2.out.ex Cm (fun e=>hr Ed)) (fun _ _ h=>⟨rfl,h⟩) ?_;intro q wz HZ;clear H2;go_wp2_with fail;go_ret;exact HZ.out
 | false =>
  simp only [h1,Bool.false_eq_true,if_false] at H1;refine gH H1 h1 ?_;intro w2 H2;clear H1 h1;go_wp2_with fail;cases h2:E.is n [46,46,46] with
  | true =>
   simp only [h2,if_true] at H2;refine vE H2 h2 ?_;intro n3 w3 hm H3;clear H2 h2;simp only [<- hm] at H3;clear hm;have hfz:=H3.out.ex.opn.blk.free 0;obtain⟨hk0,_,_,_,_⟩:=H3.out.ex.opn.blk.cells;have H4:Hid (Sx _ _ _ _ _ _ _ _ (w3.setCell ⟨p,0,none⟩ (.int .u8 42))):=dB H3 42;clear H3;go_wp2_with fail;generalize w3.setCell ⟨p,0,none⟩ (.int .u8 42)=w4 at *;clear hfz hk0;refine FA H4 (fun _ _ h=>⟨rfl,h⟩) ?_;intro n5 w5 H5;clear H4;go_wp2_with fail;refine cE H5 (fun hr=>ZE HD.out H5.out.rd H5.out.ex Cm (fun e=>hr Ed)) (fun _ _ h=>⟨rfl,h⟩) ?_;intro q wz HZ;clear H5;go_wp2_with fail;go_ret;exact HZ.out
  | false =>
   simp only [h2,Bool.false_eq_true,if_false] at H2;refine gH H2 h2 ?_;intro w3 H3;clear H2 h2;have hfz:=H3.out.ex.opn.blk.free 0;obtain⟨hk0,_,_,_,_⟩:=H3.out.ex.opn.blk.cells;have H4:Hid (Sx _ _ _ _ _ _ _ _ (w3.setCell ⟨p,0,none⟩ (.int .u8 41))):=dB H3 41;clear H3;go_wp2_with fail;generalize w3.setCell ⟨p,0,none⟩ (.int .u8 41)=w4 at *;clear hfz hk0;obtain⟨_,_,_,_,hk4⟩:=H4.out.ex.opn.blk.cells;have H5:=yC H4;clear H4
   go_region_law ((first|(go_simp;go_at_call 102;refine TB H5 (fun hr=>PK H5.out.rd HD.out .expr Ch ⟨rfl,rfl⟩ Ci hr) (fun _ _ h=>⟨rfl,h⟩) ?_;intro q6 u6 n6 w6 H6;clear H5;obtain⟨_,_,_,_,hk46⟩:=H6.out.ex.opn.blk.cells;have hk47:=fun o=>aA ((J' w6.heap.size w6).alloc (C' _) o) hk46)|(refine oN Ct _ _ Ct H6 (C' _) Ct Ct Cm ?_;intro va vc w7 H7;clear H6;obtain⟨kv9,hb9⟩:=H7.out.ex.blk;have hfz:=hb9.free 4;obtain⟨_,_,_,_,hk49⟩:=hb9.cells)))
   all_goals
    have H8:=VL H7;clear H7;go_wp2_with fail;clear hfz hk49 hk46 hk47 hb9;refine FA H8 (fun _ _ h=>⟨rfl,h⟩) ?_;intro n9 w9 H9;clear H8;go_wp2_with fail;refine cE H9 (fun hr=>ZE HD.out H9.out.rd H9.out.ex Cm (fun e=>hr Ed)) (fun _ _ h=>⟨rfl,h⟩) ?_;intro q wz HZ;clear H9;go_wp2_with fail;go_ret;exact HZ.out
theorem cJ.of {p:Nat} (h:Ans E c g T w0 (.returned (.pointer (some ⟨p,0,none⟩))) w):cJ E c g T w0 p (.returned (.tuple #[])) w:=by
 cases T with
 | ok t m=>obtain⟨q,hq,a,b,d⟩:=h;cases hq;exact⟨rfl,a,b,d⟩
 | bad k=>cases h.1
 | out=>exact h
theorem cJ.up {p m:Nat} (h:Ans E c g T w0 (Up m) w):cJ E c g T w0 p (Up m) w:=by
 cases T with
 | ok t m=>obtain⟨q,hq,a,b,d⟩:=h;cases hq
 | bad k=>exact h
 | out=>exact h
theorem CV {fr t0 p q:Nat}{x:Tr}{kv:Value} (H:aB E S) (h:Rd E c n g w) (hn:n < E.l.length) (hnd:Nd E c w0 p 0 (-1) fr t0 kv [q] [x] [] [] w) (hr:SJ E.toEnv S fr x n g≠.out) :
  Calls Tryz.prog 212 #[.pointer (some ⟨c,0,none⟩),.pointer (some ⟨p,0,none⟩)] w (cJ E c g (SJ E.toEnv S fr x n g) w0 p):=by
 have HD:=hid H;clear H;have HLT:=hid hn;clear hn;have H0:=Sx.startN h hnd hr rfl
 conv at H0=>arg 1;arg 8;unfold SJ
 clear h hnd hr;obtain⟨_,_,_,hat,_⟩:=H0.out.rd.cells;have hsm:((n:Nat):Int)<=1099511627776:=by have:=H0.out.rd.at_;have:=H0.out.rd.lie.small;omega
 have hfz:=H0.out.rd.free 3;have H1:=ZA H0 HLT;clear H0;obtain⟨n1,hm⟩:∃ m,m=n+1:=⟨_,rfl⟩;rw [show n+2=n+1+1 from rfl,show n+3=n+1+1+1 from rfl] at H1;simp only [<- hm] at H1;clear hm;go_enter Tryz.func212,Tryz.ntmps212;go_wp2_with fail;generalize w.setCell ⟨c,3,none⟩ (.int .i64 (((n:Nat):Int)+1))=w1 at *;clear hat hsm hfz;cases h1:E.is n1 [40] with
 | false =>
  simp only [h1,Bool.false_eq_true,if_false] at H1;refine gH H1 h1 ?_;intro w2 H2;clear H1 h1;have hfz:=H2.out.ex.opn.blk.free 0;obtain⟨hk0,_,_,_,_⟩:=H2.out.ex.opn.blk.cells;have H3:Hid (Sx _ _ _ _ _ _ _ _ (w2.setCell ⟨p,0,none⟩ (.int .u8 29))):=dB H2 29;clear H2;go_wp2_with fail;generalize w2.setCell ⟨p,0,none⟩ (.int .u8 29)=w3 at *;clear hfz hk0;refine lG H3 (fun _ _ h=>⟨rfl,cJ.up h⟩) ?_;intro q4 u4 n4 w4 H4;clear H3;go_wp2_with fail;refine (eA H4 Cm).mono ?_;rintro e wz ⟨rfl,HZ⟩;clear H4;go_wp2_with fail;go_end0;exact cJ.of HZ.out
 | true =>
  simp only [h1,if_true] at H1;refine vE H1 h1 ?_;intro n2 w2 hm H2;clear H1 h1;simp only [<- hm] at H2;clear hm;have hfz:=H2.out.ex.opn.blk.free 0;obtain⟨hk0,_,_,_,_⟩:=H2.out.ex.opn.blk.cells;have H3:Hid (Sx _ _ _ _ _ _ _ _ (w2.setCell ⟨p,0,none⟩ (.int .u8 33))):=dB H2 33;clear H2;go_wp2_with fail;generalize w2.setCell ⟨p,0,none⟩ (.int .u8 33)=w3 at *;clear hfz hk0;cases h2:E.is n2 [116,121,112,101] with
  | true =>
   simp only [h2,if_true] at H3;refine vE H3 h2 ?_;intro n4 w4 hm H4;clear H3 h2;simp only [<- hm] at H4;clear hm;go_wp2_with fail;refine FA H4 (fun _ _ h=>⟨rfl,cJ.up h⟩) ?_;intro n5 w5 H5;clear H4;go_wp2_with fail;refine (aP H5).mono ?_;rintro e wz ⟨rfl,HZ⟩;clear H5;go_wp2_with fail;go_end0;exact cJ.of HZ.out
  | false =>
   simp only [h2,Bool.false_eq_true,if_false] at H3;refine gH H3 h2 ?_;intro w4 H4;clear H3 h2;have hfz:=H4.out.ex.opn.blk.free 0;obtain⟨hk0,_,_,_,_⟩:=H4.out.ex.opn.blk.cells;have H5:Hid (Sx _ _ _ _ _ _ _ _ (w4.setCell ⟨p,0,none⟩ (.int .u8 32))):=dB H4 32;clear H4;go_wp2_with fail;generalize w4.setCell ⟨p,0,none⟩ (.int .u8 32)=w5 at *;clear hfz hk0;obtain⟨_,_,_,_,hk4⟩:=H5.out.ex.opn.blk.cells;have H6:=yC H5;clear H5
   go_region_law ((first|(go_simp;go_at_call 65;refine jA (F:=.typ) H6 HD Ch ⟨rfl,rfl⟩ (fun _ _ h=>⟨rfl,cJ.up h⟩) ?_;intro q6 u6 n6 w6 H7;clear H6;obtain⟨_,_,_,_,hk46⟩:=H7.out.ex.opn.blk.cells;have hk47:=fun o=>aA ((J' w6.heap.size w6).alloc (C' _) o) hk46)|(refine oN Ct _ _ Ct H7 (C' _) Ct Ct Cm ?_;intro va vc w7 H8;clear H7;obtain⟨kv9,hb9⟩:=H8.out.ex.blk;have hfz:=hb9.free 4;obtain⟨_,_,_,_,hk49⟩:=hb9.cells)))
   all_goals
    have H9:=VL H8;clear H8;go_wp2_with fail;clear hfz hk49 hk46 hk47 hb9;refine FA H9 (fun _ _ h=>⟨rfl,cJ.up h⟩) ?_;intro n9 w9 H10;clear H9;go_wp2_with fail;refine (aP H10).mono ?_;rintro e wz ⟨rfl,HZ⟩;clear H10;go_wp2_with fail;go_end0;exact cJ.of HZ.out
end
