import Derived.Deep.RegionHeldLaw
import Derived.Test.YtfmpphplbdojbaaGreatDoorQAN
namespace Go.Proofs.YtfmpphplbdojbaaGreatDoor
open Lib(hid)
set_option linter.all false
set_option maxHeartbeats 40000000
set_option maxRecDepth 100000
section
open Go.RowKit
variable {E:Ev}{S:AB}{c n k:Nat}{g:Bool}{w w0 w1 w2:World}{v:Value}{ps:List Nat}{ts:List Tr}{rs:List Nat}{us:List Tr}{T X:R Tr}
theorem xJ {ops:Array Oper}{o:Oper}{a:Act}{K:Act->World->Prop}{Q:Exit->Act->World->Prop}{E':Prop} (hgd:o.guard=none) (s x:Operand)
  (ho:o.op=.call { callee:=.builtin .append,args:=#[s,x],argTypes:=#[59,59] }) {q:Nat}{u:Tr}
  (h:Hid (Sx E c n g w0 (Rw E c w1 v ps ts [q] [u]) T X w)) (h01:w0.heap.size<=w1.heap.size) (hs:a.eval s=v) (hx:a.eval x=.slice (some ⟨w.heap.size,0,none⟩) 1 1) (hsm:ps.length<=1099511627776)
  (hQ:∀ va vc w',Hid (Sx E c n g w0 (Rw E c w1 (.slice va (ps.length+1) vc) (ps++[q]) (ts++[u]) [] []) T X w')->K (a.put o.dst (.slice va (ps.length+1) vc)) w') :
  if Region.wanted o (yielded ops a.tmps)=true then Oper.wp Tryz.prog o a (w.alloc (.cells #[.pointer (some ⟨q,0,none⟩)] 51)) K Q else E':=by
 obtain⟨iP,hiP,hz0,hz1,hz2⟩:=info_parts Tryz.infoP;have hh:=h.out;have hz:=hh.ex.fr.size;have hB:=(J' w.heap.size w).alloc (C' _) (Obj.cells #[.pointer (some ⟨q,0,none⟩)] 51);have ha5:(w.alloc (Obj.cells #[.pointer (some ⟨q,0,none⟩)] 51)).heap.size=w.heap.size+1:=Cm
 refine step_append_lies _ hgd s x 59 ho w1.heap.size 51 iP _ 1 8 Tryz.underlying59 hiP hz0 hz1 hz2 rfl Ch v ps.length (GB ps) hs (hh.ex.own.alloc _) ⟨w.heap.size,0,none⟩ 1 1 (GB [q]) hx rfl
  (Aq (cs:=#[.pointer (some ⟨q,0,none⟩)]) (t:=51) (fr:=(0,0)) (heap_alloc_new w _)) (zG _) Ch Cu Cf Cf _ rfl ?_
 intro g' cap w' hown hgrow hat _;have hg5:=hgrow.size;have hX:Fr (YD v) (w.alloc (Obj.cells #[.pointer (some ⟨q,0,none⟩)] 51)) w':=Fr.grown hgrow (fun k hk=>Hw);have hXm:∀ i∈YD v,w1.heap.size<=i:=by
  intro i hi;unfold YD at hi;split at hi
  ·exact Bi
  ·simp at hi
 have hcw:=hh.ex.cw;have hF1:=(hh.ex.fr.trans (lA c hB)).trans' hX (fun i hi=>.inr (hXm i hi));have hF0:=(hh.fr.trans (lA c hB)).trans' hX (fun i hi=>.inr Fz);refine hQ _ _ w' ⟨(hh.rd.below hB).later hX (fun i hi=>Fz) (hh.ex.z.imp id (fun h m=>by
  unfold YD at m;split at m
  ·rename_i b2 hb2;simp at m;exact h (m ▸ hb2)
  ·simp at m)),hF0,hh.cw,?_,Rw.later,hh.eq,hh.ne⟩
 exact hh.ex.more hF1 hown (fun b hb hne=>Do) Cf (hat.imp (fun e=>Ed) (fun e=>⟨g',rfl,Cf⟩)) hh.rd.zlt
theorem vM {B Bk Bo:Nat}{kd:UInt8}{sort:Nat}{f:FuncId}{first cap:Array Value} (H:∀ j,j<=k->aB E (kA E.toEnv j)) (hkk:k<=1000000000000) (h:Rd E c n g w)
  (hcf:∀ w1,Sem.run Tryz.prog (callFunc f (first++cap)) w1=.ok (.enter f (first++cap)) w1)
  (hC:∀ j,j<=k->∀ n1 w1,Rd E c n1 g w1->(kA E.toEnv j).t (.cased sort) n1 g≠.out->Calls Tryz.prog f (first++cap) w1 (Ans E c g ((kA E.toEnv j).t (.cased sort) n1 g) w1))
  (hX:(w.cell? ⟨B,0,none⟩=some (.pointer (some ⟨c,0,none⟩))/\w.cell? ⟨Bk,0,none⟩=some (.int .u8 (kd.toNat:Int))/\w.cell? ⟨Bo,0,none⟩=some (.func (.func f) first cap))/\c < B/\c < Bk/\c < Bo)
  (hr:((want E.toEnv [123] n).andThen fun _ n1=>(kA E.toEnv k).t (.clausesMore kd sort []) n1 g)≠.out) :
  Calls Tryz.prog 264 #[.pointer (some ⟨B,0,none⟩),.pointer (some ⟨Bk,0,none⟩),.pointer (some ⟨Bo,0,none⟩)] w (Ans E c g ((want E.toEnv [123] n).andThen fun _ n1=>(kA E.toEnv k).t (.clausesMore kd sort []) n1 g) w):=by
 have HA:=hid H;clear H;have HC0:=hid hC;clear hC;have HCF:=hid hcf;clear hcf;have HX:=hid hX;clear hX;have H0:=iK (Sx.start h hr rfl);clear h hr;go_enter Tryz.func264,Tryz.ntmps264;have hbr:=H0.out.fr.cell (a:=⟨B,0,none⟩) Cg HX.out.1.1;go_wp2_with fail;clear hbr;refine FA H0 (fun _ _ h=>⟨rfl,h⟩) ?_;intro n1 w1 H1;clear H0;go_wp2_with fail
 go_loopg [4] k (fun j v wr=>tL E c g w ((want E.toEnv [123] n).andThen fun _ n1=>(kA E.toEnv k).t (.clausesMore kd sort []) n1 g) (F.clausesMore kd sort) k j v wr)
 case atStart=>exact⟨n1,[],[],Cm,H1⟩
 case round =>
  clear H1;obtain⟨n2,acc,ps,hl,H3⟩:=hrel;have HL:=hid hl;clear hl;rcases gk with _|j
  ·exact Bc
  ·replace H3:Hid (Sx _ _ _ _ _ _ _ (mB E.toEnv (kA E.toEnv j) kd sort acc n2 g) _):=H3
   conv at H3=>arg 1;arg 8;unfold mB
   have HDJ:=hid (HA.out j Cr);have hbr:=H3.out.fr.cell (a:=⟨B,0,none⟩) Cg HX.out.1.1;go_wp2_with fail;clear hbr;cases h1:E.is n2 [125] with
   | true =>
    have d1:(E.word (n2:Nat)==[125])=true:=h1;simp only [h1,if_true] at H3;have HY:=hid h1;clear h1;refine cA H3 ?_;intro w4 H4;clear H3;have hbr:=H4.out.fr.cell (a:=⟨B,0,none⟩) Cg HX.out.1.1;go_wp2_with fail;clear hbr;refine LE (k2:=25) H4 Cr ?_;intro q6 w6 H6;clear H4;have hbr:=H6.out.fr.cell (a:=⟨B,0,none⟩) Cg HX.out.1.1;go_wp2_with fail;clear hbr;refine IJ H6 HY ?_;intro n7 w7 hm H7;clear H6;simp only [<- hm] at H7;clear hm;go_wp2_with fail;go_ret;exact RE (rs:=[]) (us:=[]) H7
   | false =>
    have d1:(E.word (n2:Nat)==[125])=false:=h1;simp only [h1,Bool.false_eq_true,if_false] at H3;clear h1;refine cA H3 ?_;intro w4 H4;clear H3;have hbr:=H4.out.fr.cell (a:=⟨B,0,none⟩) Cg HX.out.1.1;have hbk:=H4.out.fr.cell (a:=⟨Bk,0,none⟩) Cg HX.out.1.2.1;go_wp2_with fail;clear hbr hbk;refine TK H4 kd ?_;intro p5 w5 H5;have hbr:=H5.out.fr.cell (a:=⟨B,0,none⟩) Cg HX.out.1.1;go_wp2_with fail;clear hbr;cases h2:E.is n2 [100,101,102,97,117,108,116] with
    | true =>
     simp only [h2,if_true] at H5;refine vE H5 h2 ?_;intro n6 w6 hm H6;clear H5 h2;simp only [<- hm,mA] at H6;clear hm;have hbr:=H6.out.fr.cell (a:=⟨B,0,none⟩) Cg HX.out.1.1;go_wp2_with fail;clear hbr;refine IA H6 0 ?_;intro q7 w7 H7;clear H6;have hbr:=H7.out.fr.cell (a:=⟨B,0,none⟩) Cg HX.out.1.1;go_wp2_with fail;refine FA H7 (fun _ _ h=>⟨rfl,h⟩) ?_;intro n8 w8 H8;clear H7;have hbr:=H8.out.fr.cell (a:=⟨B,0,none⟩) Cg HX.out.1.1;go_wp2_with fail;have HR8:=yC H8;clear H8
     go_region_law ((first|(go_simp;go_at_call 67;refine jA (F:=.stmts) HR8 HDJ Ch ⟨rfl,rfl⟩ (fun _ _ h=>⟨rfl,h⟩) ?_;intro qs us ns ws HS;clear HR8;have hbr:=HS.out.fr.cell (a:=⟨B,0,none⟩) Cg HX.out.1.1;have hbs:=fun o=>aA ((J' ws.heap.size ws).alloc (C' _) o) hbr)|(go_simp;go_at_call 113;refine (NL H4 HS Cm).mono ?_;rintro e wc ⟨rfl,HC⟩;clear HS H4;have hbr:=HC.out.fr.cell (a:=⟨B,0,none⟩) Cg HX.out.1.1;have hbt:=fun o=>aA ((J' wc.heap.size wc).alloc (C' _) o) hbr)|(refine xJ Ct _ _ Ct HC (C' _) Ct Ct Cr ?_;intro va vc wz HZ;clear HC;have hbr:=HZ.out.fr.cell (a:=⟨B,0,none⟩) Cg HX.out.1.1)))
     all_goals
      go_wp2_with fail;go_roundg j
      case measure=>omega
      case rel=>exact⟨ns,_,_,Cv,HZ⟩
    | false =>
     simp only [h2,Bool.false_eq_true,if_false,zA] at H5;refine gH H5 h2 ?_;intro w6 H6;clear H5 h2;have hbr:=H6.out.fr.cell (a:=⟨B,0,none⟩) Cg HX.out.1.1;go_wp2_with fail;clear hbr;refine FA H6 (fun _ _ h=>⟨rfl,h⟩) ?_;intro n7 w7 H7;clear H6;have hbr:=H7.out.fr.cell (a:=⟨B,0,none⟩) Cg HX.out.1.1;have hbo:=H7.out.fr.cell (a:=⟨Bo,0,none⟩) Cg HX.out.1.2.2;have hcf:=HCF.out;go_wp2_with fail;clear hbr hbo hcf;refine TB H7 (fun hr=>HC0.out j Cr _ _ H7.out.rd hr) (fun _ _ h=>⟨rfl,h⟩) ?_;intro q8 u8 n8 w8 H8;clear H7;have hbr:=H8.out.fr.cell (a:=⟨B,0,none⟩) Cg HX.out.1.1;go_wp2_with fail;refine FA H8 (fun _ _ h=>⟨rfl,h⟩) ?_;intro n9 w9 H9;clear H8;have hbr:=H9.out.fr.cell (a:=⟨B,0,none⟩) Cg HX.out.1.1;go_wp2_with fail;have HR9:=yC H9;clear H9
     go_region_law ((first|(go_simp;go_at_call 67;refine jA (F:=.stmts) HR9 HDJ Ch ⟨rfl,rfl⟩ (fun _ _ h=>⟨rfl,h⟩) ?_;intro qs us ns ws HS;clear HR9;have hbr:=HS.out.fr.cell (a:=⟨B,0,none⟩) Cg HX.out.1.1;have hbs:=fun o=>aA ((J' ws.heap.size ws).alloc (C' _) o) hbr)|(go_simp;go_at_call 113;refine (NL H4 HS Cm).mono ?_;rintro e wc ⟨rfl,HC⟩;clear HS H4;have hbr:=HC.out.fr.cell (a:=⟨B,0,none⟩) Cg HX.out.1.1;have hbt:=fun o=>aA ((J' wc.heap.size wc).alloc (C' _) o) hbr)|(refine xJ Ct _ _ Ct HC (C' _) Ct Ct Cr ?_;intro va vc wz HZ;clear HC;have hbr:=HZ.out.fr.cell (a:=⟨B,0,none⟩) Cg HX.out.1.1)))
     all_goals
      go_wp2_with fail;go_roundg j
      case measure=>omega
      case rel=>exact⟨ns,_,_,Cv,HZ⟩
end
