import Derived.Test.YtjdllofmhglmiaaGreatDoorQAR
import Derived.Test.YtjdllofmhglmiaaGreatDoorQAH
namespace Go.Proofs.YtjdllofmhglmiaaGreatDoor
open Lib(hid)
set_option linter.all false
set_option maxHeartbeats 40000000
set_option maxRecDepth 100000
section
open Go.RowKit
def tX (E:Ev) (c:Nat) (g:Bool) (k:Nat) (X:List Nat) (St:Int->World->Prop) (r:R (List Tr × Int)) (w:World) (e:Ending) (w':World):Prop :=
 match r with
 | .ok p n=>∃ v ps,e=.returned v/\Rd E c n g w'/\Row w v ps p.1 w'/\Fr X w w'/\St p.2 w'/\ps.length<=k
 | .bad k=>e=Up k/\(∃ g',Rd E c k g' w')/\Fr X w w'
 | .out=>False
def mV (E:Ev) (c:Nat) (g:Bool) (X:List Nat) (St:Int->World->Prop) (r:R (Tr × Int)) (w:World) (e:Ending) (w':World):Prop :=
 match r with
 | .ok u n=>∃ p,e=.returned (p8 p)/\Rd E c n g w'/\EA w' w.heap.size w'.heap.size p u.1/\Fr X w w'/\St u.2 w'
 | .bad k=>e=Up k/\(∃ g',Rd E c k g' w')/\Fr X w w'
 | .out=>False
def zM (E:Env) (S:AB) (o:One) (word:Int) (n:Nat) (g:Bool):R (Tr × Int):=match o with
 | .call=>if 0<=word then .bad n else (S.t .expr n g).andThen fun x n1=>if E.is n1 [46,46,46] then .ok (x,(n1:Int)) (n1+1) else .ok (x,word) n1
 | o=>(S.t (.one o) n g).andThen fun x n1=>.ok (x,word) n1
def vV:Value->Nat|.slice _ n _=>n|_=>0
def bW (E:Ev) (c:Nat) (g:Bool) (k:Nat) (X:List Nat) (St:Int->World->Prop) (mark shut:List UInt8) (o:One) (r:R (List Tr × Int)) (w0:World) (v:Value) (w':World):Prop :=
 ∃ (j n:Nat) (acc:List Tr) (ps:List Nat) (word:Int),j<=k/\Rd E c n g w'/\Row w0 v ps acc w'/\Fr X w0 w'/\St word w'/\(spec E.toEnv j).l mark shut o acc word n g=r/\ps.length+j<=k
theorem xV {E:Env}{S:AB}{mark shut:List UInt8}{o:One} (acc:List Tr) (word:Int) (n:Nat) (g:Bool) (hn:E.is n shut=false) :
  LF E S mark shut o acc word n g=(zM E S o word n g).andThen fun p n1=>if E.is n1 shut then S.l mark shut o (acc++[p.1]) p.2 n1 g else (want E mark n1).andThen fun _ n2=>S.l mark shut o (acc++[p.1]) p.2 n2 g:=by
 unfold LF zM;rw [Bc (by rw [hn];decide)]
 rfl
theorem EO {E:Ev}{c n:Nat}{g:Bool}{w:World} (h:Rd E c n g w) (k:Nat) (hk:k<=1099511627776) (x y z:UInt8) (op mark shut:List UInt8) (o:One) (f:FuncId) (first cap:Array Value)
  (hcf:∀ w1,Sem.run Tryz.prog (callFunc f (first++cap)) w1=.ok (.enter f (first++cap)) w1) (X:List Nat) (hX:∀ i∈X,i < w.heap.size) (hcX:c∈X) (St:Int->World->Prop)
  (hSt:∀ wd a b,St wd a->w.heap.size<=a.heap.size->(∀ i,i < w.heap.size->i≠c->b.heap[i]?=a.heap[i]?)->St wd b) (hS0:St (-1) w)
  (HO:∀ j n1 word w1,j < k->Rd E c n1 g w1->Fr X w w1->St word w1->zM E.toEnv (spec E.toEnv j) o word n1 g≠.out->Calls Tryz.prog f (first++cap) w1 (mV E c g X St (zM E.toEnv (spec E.toEnv j) o word n1 g) w1))
  (hr:rows E.toEnv (spec E.toEnv k) (x::op) (y::mark) (z::shut) o n g≠.out) :
  Calls Tryz.prog 125 #[p8 c,.string ⟨(x::op).toArray⟩,.string ⟨(y::mark).toArray⟩,.string ⟨(z::shut).toArray⟩,.func (.func f) first cap] w
   (tX E c g k X St (rows E.toEnv (spec E.toEnv k) (x::op) (y::mark) (z::shut) o n g) w):=by
 obtain⟨iP,hiP,hz0,hz1,hz2⟩:=info_parts Tryz.infoP;have hcw:=h.lt;have HZL:=hid h.zlt;have HW:=hid (NH h x op);have HOh:=hid HO;have hb4:∀ wd (a b:World),St wd a->w.heap.size<=a.heap.size->Below a.heap.size a b->St wd b:=fun wd a b s z hb=>hSt wd a b s z (fun i hi _=>hb.block i Cs)
 have hf4:∀ wd (a b:World),St wd a->w.heap.size<=a.heap.size->Fr [c] a b->St wd b:=fun wd a b s z hb=>hSt wd a b s z (fun i hi hne=>hb.block i Cs Ex)
 have hw4:∀ a b:World,Fr [c] a b->Fr X a b:=fun a b hb=>hb.weaken (fun i _ hi=>by simp at hi;rw [hi];exact hcX)
 have HP:=hid (Az hX (Az hSt (Az hb4 (Az hf4 (Az hw4 hS0)))));unfold rows at hr ⊢;clear HO h hX hSt hb4 hf4 hw4 hS0
 go_in
 go_wp2_with fail;refine HW.out.mono ?_;rintro e w1 hD;clear HW;generalize hw:want E.toEnv (x::op) n=rw0 at *;cases rw0 with
 | out=>exact hD.elim
 | bad k2 =>
  obtain⟨rfl,q1,q2⟩:=hD;exact⟨rfl,by rw [hw];exact⟨rfl,q1,HP.out.2.2.2.2.1 _ _ q2⟩⟩
 | ok u n1 =>
  obtain⟨rfl,hR1,hF1⟩:=hD;have hfin:(want E.toEnv (x::op) n).andThen (fun _ n1=>(spec E.toEnv k).l (y::mark) (z::shut) o [] (-1) n1 g)=(spec E.toEnv k).l (y::mark) (z::shut) o [] (-1) n1 g:=by rw [hw];rfl
  have HFin:=hid hfin;simp only [R.andThen] at hr;clear hfin;generalize hrr:(spec E.toEnv k).l (y::mark) (z::shut) o [] (-1) n1 g=r at *;have hST:bW E c g k X St (y::mark) (z::shut) o r w (.slice none 0 0) w1:=⟨k,n1,[],[],-1,C' _,hR1,⟨Av _ _ _ _,trivial⟩,HP.out.2.2.2.2.1 _ _ hF1,HP.out.2.2.2.1 _ _ _ HP.out.2.2.2.2.2 (C' _) hF1,hrr,Cu⟩;have HST:=hid hST;have Hr:=hid hr;have HRR:=hid hrr;clear hST hR1 hF1 hrr hr hw;go_wp2_with fail
  go_loopw [11] (fun u11 w'=>bW E c g k X St (y::mark) (z::shut) o r w u11 w') (fun u11 _=>k - vV u11)
  case atStart=>exact HST.out
  case round =>
   clear HST;obtain⟨j,m,acc,ps,wd,hjk,hR,hRow,hF,hS,hl,hps⟩:=hrel;cases j with
   | zero=>exact absurd hl.symm Hr.out
   | succ j =>
    obtain⟨va,vc,rfl⟩:=xB hRow.1;have hl:LF E.toEnv (spec E.toEnv j) (y::mark) (z::shut) o acc wd m g=r:=hl;have HN:=hid (pE hR);have HR:=hid (Az hR (Az hRow (Az hF hS)));cases hz:E.is m (z::shut) with
    | true =>
     have hd:(E.word m==z::shut)=true:=hz;have hres:r=.ok (acc,wd) m:=by rw [<- hl];unfold LF;rw [Bb hz]
     have HRes:=hid hres;have hpk:ps.length<=k:=Cs
     clear hl hz hres hR hRow hF hS;go_wp2_with fail;refine HN.out.mono ?_;rintro e w2 ⟨rfl,hb⟩;go_wp2_with fail;go_ret;obtain⟨hR,hRow,hF,hS⟩:=HR.out;rw [HFin.out,HRes.out];exact⟨_,ps,rfl,hR.below hb,hRow.later (lA c hb) hcw hF.size,hF.trans (Fr.below hb),HP.out.2.2.1 _ _ _ hS hF.size hb,hpk⟩
    | false =>
     have hd:(E.word m==z::shut)=false:=hz;have hl2:=hl;rw [xV acc wd m g hz] at hl2;generalize hre:zM E.toEnv (spec E.toEnv j) o wd m g=re at hl2;have hne:re≠.out:=fun e=>by rw [e] at hl2;exact Hr.out hl2.symm
     have HL:=hid hl2;have HE:=hid hre;have hjk':j < k:=Cs
     have hpl:ps.length+1<=k:=Cs
     have HNE:=hid hne;clear hl hl2 hz hre hR hRow hF hne hS;go_wp2_with fail;refine HN.out.mono ?_;rintro e w2 ⟨rfl,hb⟩;have hR2:=HR.out.1.below hb;have hRow2:=HR.out.2.1.later (lA c hb) hcw HR.out.2.2.1.size;have hF2:=HR.out.2.2.1.trans (Fr.below hb);have hS2:=HP.out.2.2.1 _ _ _ HR.out.2.2.2 HR.out.2.2.1.size hb;have HC:=hid (HOh.out j m wd w2 hjk' hR2 hF2 hS2 (by rw [HE.out];exact HNE.out));have H2:=hid (Az hR2 (Az hRow2 hF2));clear hR2 hRow2 hF2 hS2;go_wp2_with fail;refine HC.out.mono ?_;rintro e w3 hA;rw [HE.out] at hA;clear HC HN HR hb;cases re with
     | out=>exact hA.elim
     | bad k2 =>
      obtain⟨rfl,q1,q2⟩:=hA;refine⟨rfl,?_⟩;rw [HFin.out,<- HL.out];exact⟨rfl,q1,H2.out.2.2.trans q2⟩
     | ok t m1 =>
      obtain⟨p,rfl,q1,q2,q3,q4⟩:=hA;obtain⟨_,hRow2,hF2⟩:=H2.out;have hRow3:=hRow2.laterX q3 HP.out.1;have hF3:=hF2.trans q3;have hsz2:=hF2.size;have hsz3:=hF3.size;have hrow:=hRow3.1;have hB:=(N' w3.heap.size w3).alloc (C' _) (Obj.cells #[p8 p] 44);have hvlt:∀ b,(Value.slice va ps.length vc).ownBlock=some b->w.heap.size<=b/\b < w2.heap.size:=fun b hb=>hRow2.1.lt b hb
      have HQ:=hid (Az q1 (Az q2 (Az hRow3 (Az hF3 (Az hvlt q4)))));clear q1 q2 q3 q4 hRow2 hF2 hRow3 hF3 H2;have hbz:w.heap.size<=(w3.alloc (Obj.cells #[p8 p] 44)).heap.size:=Cv
      go_wp2_with (at_builtin;refine wpList_append_own_at _ rfl _ _ 52 rfl w.heap.size 44 iP _ 1 8 Tryz.underlying52 hiP hz0 hz1 hz2 rfl Ct _ _ _ rfl (hrow.alloc _) (y8 w3.heap.size 0) 1 1 (GB [p]) rfl rfl (At (cs:=#[p8 p]) (t:=44) (fr:=(0,0)) (B8 w3 _)) (zG _) Da Cs hbz ?_);intro v1 w5 hown hgrow _ hat;obtain⟨v5,c5,rfl⟩:=xB hown;obtain⟨q1,q2,hRow3,hF3,hvlt,q4⟩:=HQ.out;have hg5:=hgrow.size;have ha5:w3.heap.size+1=(w3.alloc (Obj.cells #[p8 p] 44)).heap.size:=Cu
      have hRow5:Row w (.slice v5 (ps.length+1) c5) (ps++[p]) (acc++[t.1]) w5 :=
       Row.more hRow3 q2 hsz2 (fun b hb=>(hvlt b hb).2) hown (fun b hb hne=>Eg) Cs
        (hat.imp id (fun e=>⟨_,e,Cs⟩))
      have hX:Fr (YD (.slice va ps.length vc)) (w3.alloc (Obj.cells #[p8 p] 44)) w5:=Fr.grown hgrow (fun k hk=>Gl);have hXm:∀ i∈YD (.slice va ps.length vc),w.heap.size<=i:=by
       intro i hi;unfold YD at hi;split at hi
       ·rename_i b2 hb2;simp at hi;subst hi;exact (hvlt _ hb2).1
       ·simp at hi
      have hF5:Fr X w w5:=(hF3.trans (Fr.below hB)).trans' hX (fun i hi=>.inr (hXm i hi));have hS5:St t.2 w5:=by
       have s1:=HP.out.2.2.1 _ _ _ q4 hsz3 hB;exact HP.out.2.1 _ _ _ s1 Cs (fun i hi _=>hX.block i Cs (fun m=>by have:=hXm i m;omega))
      have hR5:=(q1.below hB).later hX (fun i hi=>F5) (HZL.out.imp id (fun h m=>by have:=hXm _ m;omega));have HN5:=hid (pE hR5);have H5:=hid (Az hR5 (Az hRow5 (Az hF5 hS5)));clear hRow5 hX hXm hF5 hR5 q1 q2 hRow3 hF3 hvlt hS5 q4 hown hgrow hat hrow hB hbz HQ;cases hz5:E.is m1 (z::shut) with
      | true =>
       have hd5:(E.word m1==z::shut)=true:=hz5;have hL5:(spec E.toEnv j).l (y::mark) (z::shut) o (acc++[t.1]) t.2 m1 g=r:=by
        have:=HL.out;simp only [R.andThen] at this;rw [Bb hz5] at this;exact this
       have HL5:=hid hL5;clear hL5 hz5;go_wp2_with fail;refine HN5.out.mono ?_;rintro e w6 ⟨rfl,hb⟩;go_wp2_with fail;go_roundw
       case rel =>
        obtain⟨hR5,hRow5,hF5,hS5⟩:=H5.out;exact⟨j,m1,acc++[t.1],ps++[p],t.2,Cs,hR5.below hb,hRow5.later (lA c hb) hcw hF5.size,hF5.trans (Fr.below hb),HP.out.2.2.1 _ _ _ hS5 hF5.size hb,HL5.out,Cv⟩
       case measure=>simp only [vV];omega
      | false =>
       have hd5:(E.word m1==z::shut)=false:=hz5;have hL5:((want E.toEnv (y::mark) m1).andThen fun _ n2=>(spec E.toEnv j).l (y::mark) (z::shut) o (acc++[t.1]) t.2 n2 g)=r:=by
        have:=HL.out;simp only [R.andThen] at this;rw [Bc (by rw [hz5];decide)] at this;exact this
       have HL5:=hid hL5;clear hL5 hz5;go_wp2_with fail;refine HN5.out.mono ?_;rintro e w6 ⟨rfl,hb⟩;obtain⟨hR5,hRow5,hF5,hS5⟩:=H5.out;have HW6:=hid (NH (hR5.below hb) y mark);have H6:=hid (Az (hRow5.later (lA c hb) hcw hF5.size) (Az (hF5.trans (Fr.below hb)) (HP.out.2.2.1 _ _ _ hS5 hF5.size hb)));clear hR5 hRow5 hF5 hS5 H5 HN5 hb;generalize hw6:want E.toEnv (y::mark) m1=rw6 at HW6 HL5;go_wp2_with fail;refine HW6.out.mono ?_;rintro e w7 hD;clear HW6;cases rw6 with
       | out=>exact hD.elim
       | bad k2 =>
        obtain⟨rfl,q1,q2⟩:=hD;refine⟨rfl,?_⟩;rw [HFin.out,<- HL5.out];exact⟨rfl,q1,H6.out.2.1.trans (HP.out.2.2.2.2.1 _ _ q2)⟩
       | ok u n7 =>
        obtain⟨rfl,hR7,hF7⟩:=hD;clear hw6;go_wp2_with fail;go_roundw
        case rel=>exact⟨j,n7,acc++[t.1],ps++[p],t.2,Cs,hR7,H6.out.1.later hF7 hcw H6.out.2.1.size,H6.out.2.1.trans (HP.out.2.2.2.2.1 _ _ hF7),HP.out.2.2.2.1 _ _ _ H6.out.2.2 H6.out.2.1.size hF7,HL5.out,Cv⟩
        case measure=>simp only [vV];omega
end
section
open Go.RowKit
def bR (b:Bool):R Tr:=.bad b.toNat
theorem DY {a b:Bool} (h:bR a=bR b):a=b:=by
 cases a <;> cases b <;> simp [bR] at h ⊢
theorem QL {b:Bool}:bR b≠.out:=by unfold bR;intro h;cases h
def xF (E:Ev) (c n:Nat) (g:Bool) (v:Value) (w:World) (e:Ending) (w':World):Prop:=e=.returned v/\Rd E c n g w'/\Fr [c] w w'
section
variable {E:Ev}{S:AB}{c n:Nat}{g:Bool}{w0:World}{P:World->Prop}{T X:R Tr}{w:World}{Q:Ending->World->Prop}
theorem kB {fn:FuncId}{args:Array Value}{v:Value} (h:Hid (Sx E c n g w0 P T X w)) (hC:Calls Tryz.prog fn args w (xF E c n g v w)) (hQ:∀ w',Hid (Sx E c n g w0 P T X w')->Q (.returned v) w'):Calls Tryz.prog fn args w Q:=by
 refine hC.mono ?_;rintro e w' ⟨rfl,q1,q2⟩;exact hQ w' (h.out.step q2 q1 rfl)
theorem gC {b1 b2:Bool} (h:Hid (Sx E c n g w0 P (bR b1) (bR b2) w)):xF E c n g (.bool b1) w0 (.returned (.bool b2)) w:=⟨by rw [DY h.out.eq],h.out.rd,h.out.fr⟩
end
section
variable {E:Ev}{S:AB}{c n:Nat}{g:Bool}{w:World}
theorem PK (h:Rd E c n g w) (H:aB E S) (F:F) (hf:xD F≠0) (hs:NF F=false/\okF F=true) (hcf:Tryz.prog.funcs[xD F]?.map (fun f=>(f.name== "runtime.NumGoroutine",f.body.isNone))=some (false,false)) (hr:S.t F n false≠.out) :
  Calls Tryz.prog 69 #[p8 c,.func (.func (xD F)) #[p8 c] #[]] w (Ans E c g (S.t F n false) w):=by
 refine (GG h (xD F) #[p8 c] #[] (fun w1=>?_) (S.t F n false) (fun _=>True) w (Fr.refl _ _) h.lt (fun w1 hR hF=>(H.t F c n false w1 hf (DA hs.1 hR.at_ hs.2) hR hr).mono (fun e w' hA=>⟨fun _ _=>trivial,hA.behind hF⟩))).mono (fun e w' hA=>hA.2);obtain⟨fn,h1,h2⟩:=Option.map_eq_some_iff.1 hcf;exact VE h1 Fs Ft _ _
theorem SE (h:Rd E c n g w) (H:aB E S) (F:F) (hf:xD F≠0) (hs:NF F=false/\okF F=true) (hcf:Tryz.prog.funcs[xD F]?.map (fun f=>(f.name== "runtime.NumGoroutine",f.body.isNone))=some (false,false)) (hr:S.t F n true≠.out) :
  Calls Tryz.prog 237 #[p8 c,.func (.func (xD F)) #[p8 c] #[]] w (Ans E c g (S.t F n true) w):=by
 refine (QO h (xD F) #[p8 c] #[] (fun w1=>?_) (S.t F n true) (fun _=>True) w (Fr.refl _ _) h.lt (fun w1 hR hF=>(H.t F c n true w1 hf (DA hs.1 hR.at_ hs.2) hR hr).mono (fun e w' hA=>⟨fun _ _=>trivial,hA.behind hF⟩))).mono (fun e w' hA=>hA.2);obtain⟨fn,h1,h2⟩:=Option.map_eq_some_iff.1 hcf;exact VE h1 Fs Ft _ _
end
theorem cF {f:FuncId} (hcf:Tryz.prog.funcs[f]?.map (fun f=>(f.name== "runtime.NumGoroutine",f.body.isNone))=some (false,false)) (args:Array Value) (w:World):Sem.run Tryz.prog (callFunc f args) w=.ok (.enter f args) w:=by
 obtain⟨fn,h1,h2⟩:=Option.map_eq_some_iff.1 hcf;exact VE h1 Fs Ft _ _
structure El (E:Ev) (c:Nat) (g:Bool) (k:Nat) (w:World) (o:One) (f:FuncId) (first cap:Array Value):Prop where
 cf:∀ w1,Sem.run Tryz.prog (callFunc f (first++cap)) w1=.ok (.enter f (first++cap)) w1
 nc:o≠.call
 does:∀ j n1 w1,j < k->Rd E c n1 g w1->Fr [c] w w1->(spec E.toEnv j).t (.one o) n1 g≠.out->Calls Tryz.prog f (first++cap) w1 (Ans E c g ((spec E.toEnv j).t (.one o) n1 g) w1)
theorem RR {E:Env}{S:AB}{o:One} (ho:o≠.call) (word:Int) (n:Nat) (g:Bool):zM E S o word n g=(S.t (.one o) n g).andThen fun x n1=>.ok (x,word) n1:=by
 cases o <;> first|rfl|exact absurd rfl ho
section
variable {E:Ev}{c n k:Nat}{g:Bool}{w0:World}{P:World->Prop}{T X:R Tr}{w:World}{Q:Ending->World->Prop}
theorem El.meth (H:∀ j,j<=k->aB E (spec E.toEnv j)) (o:One) (hf:xD (.one o)≠0) (ho:o≠.call) (hcf:Tryz.prog.funcs[xD (.one o)]?.map (fun f=>(f.name== "runtime.NumGoroutine",f.body.isNone))=some (false,false)) :
  El E c g k w o (xD (.one o)) #[p8 c] #[]:=by
 refine⟨fun w1=>?_,ho,fun j n1 w1 hj hR _ hr=>(H j Cs).t (.one o) c n1 g w1 hf (DA rfl hR.at_) hR hr⟩;obtain⟨fn,h1,h2⟩:=Option.map_eq_some_iff.1 hcf;exact VE h1 Fs Ft _ _
theorem xG {K:List Tr × Int->Nat->R Tr}{x y z:UInt8}{op mark shut:List UInt8}{o:One}{f:FuncId}{first cap:Array Value}
  (h:Hid (Sx E c n g w0 P T ((rows E.toEnv (spec E.toEnv k) (x::op) (y::mark) (z::shut) o n g).andThen K) w)) (hk:k<=1099511627776) (he:El E c g k w o f first cap) (hB:∀ k w',Ans E c g T w0 (Up k) w'->Q (Up k) w')
  (hQ:∀ v rs u n' w',rs.length<=k->Hid (Sx E c n' g w0 (Rw E c w v rs u.1 [] []) T (K u n') w')->Q (.returned v) w') :
  Calls Tryz.prog 125 #[p8 c,.string ⟨(x::op).toArray⟩,.string ⟨(y::mark).toArray⟩,.string ⟨(z::shut).toArray⟩,.func (.func f) first cap] w Q:=by
 have hh:=h.out;have hr:rows E.toEnv (spec E.toEnv k) (x::op) (y::mark) (z::shut) o n g≠.out:=fun e=>hh.ne (by rw [hh.eq,e];rfl)
 refine (EO hh.rd k hk x y z op mark shut o f first cap he.cf [c] (fun i hi=>by simp at hi;subst hi;exact hh.rd.lt) Cu (fun wd _=>wd=-1) (fun _ _ _ h _ _=>h) rfl (fun j n1 word w1 hj hR hF hw hne=>?_) hr).mono ?_
 ·subst hw;rw [RR he.nc] at hne ⊢;have hne2:(spec E.toEnv j).t (.one o) n1 g≠.out:=fun e=>hne Eu
  refine (he.does j n1 w1 hj hR hF hne2).mono ?_;intro e w' hA;cases hc:(spec E.toEnv j).t (.one o) n1 g with
  | out=>exact absurd hc hne2
  | bad k2=>rw [hc] at hA;exact hA
  | ok t m=>rw [hc] at hA;obtain⟨p,a1,a2,a3,a4⟩:=hA;exact⟨p,a1,a2,a3,a4,rfl⟩
 ·intro e w' hA;cases hc:rows E.toEnv (spec E.toEnv k) (x::op) (y::mark) (z::shut) o n g with
  | out=>exact absurd hc hr
  | bad k2=>rw [hc] at hA hh;obtain⟨rfl,q1,q2⟩:=hA;exact hB k2 w' (hh.bad rfl q1 q2)
  | ok u m =>
   rw [hc] at hA hh;obtain⟨v,rs,rfl,q1,q2,q3,_,q4⟩:=hA;exact hQ v rs u m w' q4 ((hh.step q3 q1 rfl).with ⟨q3,hh.rd.lt,q2.1,q2.2,trivial,hh.rd.zlt.imp id (fun h e=>by have:=(q2.1.lt _ e).1;omega)⟩ Rw.later)
end
end
section
open Go.RowKit
section
variable {E:Ev}{S:AB}{c n:Nat}{g:Bool}{w0 w1:World}{P:World->Prop}{T X:R Tr}{w:World}{Q:Ending->World->Prop}
variable {p:Nat}{k:UInt8}{wd:Int}{f t:Nat}{kv v:Value}{ps0:List Nat}{ts0:List Tr}{ps:List Nat}{ts:List Tr}{rs:List Nat}{us:List Tr}
theorem mQ4 (h:Hid (Sx E c n g w0 P T X w)):w.cell? (y8 c 3)=some (i8 (n:Int)):=h.out.rd.cells.2.2.2.1
theorem qQ4 (h:Hid (Sx E c n g w0 P T X w)):((n:Nat):Int)<=1099511627776:=by have:=h.out.rd.at_;have:=h.out.rd.lie.small;omega
theorem oQ4 (h:Hid (Sx E c n g w0 P T X w)):w.frozen? (y8 c 3)=false:=h.out.rd.free 3
theorem nQ4 (h:Hid (Sx E c n g w0 (Nd E c w1 p k wd f t kv ps0 ts0 ps ts) T X w)):w.cell? (y8 p 0)=some (.int .u8 (k.toNat:Int))/\w.cell? (y8 p 1)=some (i8 wd)/\w.cell? (y8 p 2)=some (i8 (f:Int))/\w.cell? (y8 p 4)=some kv/\w.frozen? (y8 p 0)=false/\w.frozen? (y8 p 1)=false:=by
  obtain⟨a,b,d,_,e⟩:=h.out.ex.opn.blk.cells;exact⟨a,b,d,e,h.out.ex.opn.blk.free 0,h.out.ex.opn.blk.free 1⟩
theorem bx {B:Nat}{x:Value} (h:Hid (Sx E c n g w0 P T X w)) (hX:Hid (w0.cell? (y8 B 0)=some x/\c < B)):w.cell? (y8 B 0)=some x:=h.out.fr.cell (a:=(y8 B 0)) (by have:=hX.out.2;simp;omega) hX.out.1
theorem cQ4 {E:Env}{n:Nat}{ws:List UInt8}{b:Bool} (h:(E.word (n:Int)==ws)=b):E.is n ws=b:=h
theorem eQ4 {E:Env}{n:Nat}{ws:List UInt8}{b:Bool} (h:(E.word ((n:Int)+1)==ws)=b):E.is (n+1) ws=b:=cQ4 (by push_cast;exact h)
theorem dQ4 {E:Env}{n:Nat}{ws:List UInt8}{b:Bool} (h:(E.word ((n:Int)+2)==ws)=b):E.is (n+2) ws=b:=cQ4 (by push_cast;exact h)
theorem df_:(∀ i,@decide False i=false)/\(∀ i,@decide True i=true):=⟨fun _=>decide_eq_false id,fun _=>decide_eq_true trivial⟩
theorem ww {a b c:List UInt8} (h:(a==b)=true) (k:(a==c)=true) (e:(b==c)=false):False:=by
  rw [Bh] at h k;subst h;subst k;simp at e
theorem bbf {b:Bool} (h:b=false) (k:b=true):False:=by rw [h] at k;cases k
theorem nt_ {b:Bool} (h:(!b)=true):b=false:=Dp
theorem nf_ {b:Bool} (h:(!b)=false):b=true:=Dp
theorem kQ4 {a b:List UInt8} (h:¬ a=b):(a==b)=false:=Dp
theorem pQ4 {a b:List UInt8} (h:a=b):(a==b)=true:=Dp
theorem WQ3 {K:Tr->Nat->R Tr}{F:F}{fn:FuncId} (h:Hid (Sx E c n g w0 (Nd E c w1 p k wd f t kv ps0 ts0 ps ts) T ((S.t F n g).andThen K) w)) (hD:Hid (aB E S))
    (hB:∀ k w',Ans E c g T w0 (Up k) w'->Q (Up k) w') (hfn:xD F=fn/\fn≠0) (hs:NF F=false/\okF F=true∨okF F=true/\n < E.l.length)
    (hQ:∀ q u n' w',Hid (Sx E c n' g w0 (Nd E c w1 p k wd f t kv ps0 ts0 (ps++[q]) (ts++[u])) T (K u n') w')->Q (.returned (p8 q)) w') :
    Calls Tryz.prog fn #[p8 c] w Q:=by
  obtain⟨rfl,hf⟩:=hfn;exact TB h (hD.out.t F c n g w hf (hs.elim (fun hs=>DA hs.1 h.out.rd.at_ hs.2) fun hs=>SF hs.2 hs.1) h.out.rd) hB hQ
theorem iQ4 {F:F}{fn:FuncId} (h:Hid (Sx E c n g w0 P T (S.t F n g) w)) (hD:Hid (aB E S)) (hB:∀ k w',Ans E c g T w0 (Up k) w'->Q (Up k) w') (hfn:xD F=fn/\fn≠0) (hs:NF F=false/\okF F=true∨okF F=true/\n < E.l.length)
    (hQ:∀ q w',Hid (Ans E c g T w0 (.returned (p8 q)) w')->Q (.returned (p8 q)) w') :
    Calls Tryz.prog fn #[p8 c] w Q:=by
  obtain⟨rfl,hf⟩:=hfn;exact pG h (hD.out.t F c n g w hf (hs.elim (fun hs=>DA hs.1 h.out.rd.at_ hs.2) fun hs=>SF hs.2 hs.1) h.out.rd) hB hQ
theorem aZ1 {v:Value}{K:Tr->Nat->R Tr}{F:F}{fn:FuncId} (h:Hid (Sx E c n g w0 (Rw E c w1 v ps ts rs us) T ((S.t F n g).andThen K) w)) (hD:Hid (aB E S))
    (hB:∀ k w',Ans E c g T w0 (Up k) w'->Q (Up k) w') (hfn:xD F=fn/\fn≠0) (hs:NF F=false/\okF F=true∨okF F=true/\n < E.l.length)
    (hQ:∀ q u n' w',Hid (Sx E c n' g w0 (Rw E c w1 v ps ts (rs++[q]) (us++[u])) T (K u n') w')->Q (.returned (p8 q)) w') :
    Calls Tryz.prog fn #[p8 c] w Q:=by
  obtain⟨rfl,hf⟩:=hfn;exact lL h (hD.out.t F c n g w hf (hs.elim (fun hs=>DA hs.1 h.out.rd.at_ hs.2) fun hs=>SF hs.2 hs.1) h.out.rd) hB hQ
theorem jQ4 (h:Hid (Sx E c n g w0 P T X w)) (hlt:Hid (n < E.l.length)):∃ n' w',n'=n+1/\(n:Int)+1=(n':Int)/\w.setCell (y8 c 3) (i8 ((n:Int)+1))=w'/\w.heap.size=w'.heap.size/\Hid (Sx E c n' g w0 P T X w') :=
  ⟨_,_,rfl,by push_cast;rfl,rfl,Cu,ZA h hlt⟩
def Kd (k:UInt8) (K:Int):Prop:=(k.toNat:Int)=K
theorem gQ4 {k':UInt8}{K:Int} (h:Hid (Sx E c n g w0 P T X w)) (hK:Kd k' K) (hQ:∀ p w',Hid (Sx E c n g w0 (Nd E c w0 p k' (-1) n 0 OE [] [] [] []) T X w')->Q (.returned (p8 p)) w') :
    Calls Tryz.prog 73 #[p8 c,.int .u8 K] w Q:=by
  subst hK;exact yB h k' hQ
theorem UQ3 {k2:UInt8}{K:Int} (h:Hid (Sx E c n g w0 P T (.ok (vA k2 n) n) w)) (hK:(k2.toNat:Int)=K) (hQ:∀ q w',Hid (Ans E c g T w0 (.returned (p8 q)) w')->Q (.returned (p8 q)) w') :
    Calls Tryz.prog 118 #[p8 c,.int .u8 K] w Q:=by
  subst hK;exact jL h hQ
theorem ZQ3 {k':UInt8}{K:Int} (h:Hid (Sx E c n g w0 (Nd E c w1 p k wd f t kv ps0 ts0 ps ts) T X w)) (hK:Kd k' K) (h01:w0.heap.size<=w1.heap.size):∃ w',w.setCell (y8 p 0) (.int .u8 K)=w'/\w.heap.size=w'.heap.size/\Hid (Sx E c n g w0 (Nd E c w1 p k' wd f t kv ps0 ts0 ps ts) T X w'):=by
  subst hK;exact⟨_,rfl,Cu,dB h k' h01⟩
theorem fQ4 (h:Hid (Sx E c n g w0 (Nd E c w1 p k wd f t kv ps0 ts0 ps ts) T X w)) (m:Nat) (h01:w0.heap.size<=w1.heap.size):∃ w',w.setCell (y8 p 1) (i8 (m:Int))=w'/\w.heap.size=w'.heap.size/\Hid (Sx E c n g w0 (Nd E c w1 p k m f t kv ps0 ts0 ps ts) T X w') :=
  ⟨_,rfl,Cu,oD h m h01⟩
theorem hQ4 {w2:World}{n2:Nat}{X2:R Tr}{k2:UInt8}{K:Int} (h2:Hid (Sx E c n2 g w0 (Nd E c w1 p k wd f t kv ps0 ts0 ps ts) T X2 w2)) {rs0:List Nat}{us0:List Tr} (h:Hid (Sx E c n g w0 (Rw E c w2 v rs us rs0 us0) T X w)) (hK:Kd k2 K) (hsm:rs.length<=1099511627776)
    (hQ:∀ q w',Hid (Sx E c n g w0 (Nd E c w1 p k wd f t kv ps0 ts0 (ps++[q]) (ts++[xC k2 us n])) T X w')->Q (.returned (p8 q)) w') :
    Calls Tryz.prog 78 #[p8 c,.int .u8 K,v] w Q:=by
  subst hK;exact VJ h2 h hsm hQ
theorem aQ4 {k2:UInt8}{K:Int} (h:Hid (Sx E c n g w0 (Rw E c w1 v ps ts rs us) T X w)) (hK:Kd k2 K) (hsm:ps.length<=1099511627776)
    (hQ:∀ q w',Hid (Sx E c n g w0 (Rw E c w1 OE [] [] [q] [xC k2 ts n]) T X w')->Q (.returned (p8 q)) w') :
    Calls Tryz.prog 78 #[p8 c,.int .u8 K,v] w Q:=by
  subst hK;exact LE h hsm hQ
theorem bQ4 {x:UInt8}{ws:List UInt8} (h:Hid (Sx E c n g w0 P T X w)) (h1:∀ n' w',n'=n+1->E.is n (x::ws)=true->Hid (Sx E c n' g w0 P T X w')->Q (.returned (.bool true)) w') (h2:∀ w',E.is n (x::ws)=false->Hid (Sx E c n g w0 P T X w')->Q (.returned (.bool false)) w') :
    Calls Tryz.prog 43 #[p8 c,.string ⟨(x::ws).toArray⟩] w Q:=by
  cases hd:E.is n (x::ws) with
  | true=>exact vE h hd fun n' w' e H=>h1 n' w' e hd H
  | false=>exact gH h hd fun w' H=>h2 w' hd H
inductive KU:List Value->List Tr->List Nat->List Tr->Prop
  | nil (ps:List Nat) (ts:List Tr):KU [] [] ps ts
  | take (p:Nat) (t:Tr) (vs:List Value) (us:List Tr) (ps:List Nat) (ts:List Tr) (h:KU vs us ps ts):KU (p8 p::vs) (t::us) (p::ps) (t::ts)
  | skip (p:Nat) (t:Tr) (vs:List Value) (us:List Tr) (ps:List Nat) (ts:List Tr) (h:KU vs us ps ts):KU vs us (p::ps) (t::ts)
theorem KU.trees {vs:List Value}{us:List Tr}{ps:List Nat}{ts:List Tr} (h:KU vs us ps ts):∃ ps',vs=GB ps'/\∀ w D,fA w D ps ts->fA w D ps' us:=by
  induction h with
  | nil ps ts=>exact⟨[],rfl,fun _ _ _=>trivial⟩
  | take p t vs us ps ts h ih=>obtain⟨ps',e,hh⟩:=ih;exact⟨p::ps',Eu,fun w D k=>⟨k.1,hh w D k.2⟩⟩
  | skip p t vs us ps ts h ih=>obtain⟨ps',e,hh⟩:=ih;exact⟨ps',e,fun w D k=>hh w D k.2⟩
theorem VQ3 {A:Array Value}{m:Nat}{us:List Tr} (h:Hid (Sx E c n g w0 (Nd E c w0 p k wd f t kv ps0 ts0 ps ts) T (.ok (.mk k wd f n (ts0++us)) n) w)) (hA:KU A.toList us ps ts) (hm:A.size=m) (hsm:ps0.length+m<=1000000) :
    Calls Tryz.prog 80 #[p8 c,p8 p,.slice (some (y8 w.heap.size 0)) m m] (w.alloc (.cells A 44))
      fun e w'=>e=.returned (p8 p)/\Hid (Ans E c g T w0 (.returned (p8 p)) w'):=by
  obtain⟨ps',e,hh⟩:=hA.trees;have e2:A=(GB ps').toArray:=by rw [<- e]
  have e3:ps'.length=m:=by rw [<- hm,e2];simp [GB]
  rw [e2,<- e3];exact eA (gG h (fun D=>hh w D)) Cs
theorem XQ3 {q:Nat}{u:Tr} (h:Hid (Sx E c n g w0 (Nd E c w1 p k wd f t kv ps0 ts0 ps ts) T (.ok u n) w)) (hA:KU [p8 q] [u] ps ts) (h01:w0.heap.size<=w1.heap.size):Ans E c g T w0 (.returned (p8 q)) w:=by
  obtain⟨ps',e,hh⟩:=hA.trees
  match ps',e with
  | [q'],e=>simp [GB] at e;subst e;exact IV (ps:=[]) (ts:=[]) (gG h (fun D=>hh w D)) h01
  | [],e=>simp [GB] at e
  | _::_::_,e=>simp [GB] at e
theorem YQ3 {q:Nat}{u:Tr} (h:Hid (Sx E c n g w0 (Rw E c w1 v ps ts rs us) T (.ok u n) w)) (hA:KU [p8 q] [u] rs us) (h01:w0.heap.size<=w1.heap.size):Ans E c g T w0 (.returned (p8 q)) w:=by
  obtain⟨ps',e,hh⟩:=hA.trees
  match ps',e with
  | [q'],e=>simp [GB] at e;subst e;exact RE (rs:=[]) (us:=[]) (ZY h (fun D=>hh w D)) h01
  | [],e=>simp [GB] at e
  | _::_::_,e=>simp [GB] at e
end
theorem sb {P:Prop} (hh:P:=by
  (try simp only [Ar,Ao])
  repeat' first
    | exact KU.nil _ _
    | apply KU.take
    | apply KU.skip):P:=hh
theorem le_ {P:Prop} (hh:P:=by
  first
  | exact C' _
  | exact HO.out.fr.size
  | omega):P:=hh
theorem up {P:Prop} (hh:P:=by
  first
  | exact fun _ _ h=>⟨rfl,h⟩
  | exact fun _ _ h=>⟨rfl,h.behind HFB.out⟩
  | exact fun _ _ h=>⟨rfl,fun _ hq=>Km,h⟩
  | exact fun _ _ h=>⟨rfl,cJ.up h⟩):P:=hh
theorem dn {P:Prop} (hh:P:=by
  go_wp2_with fail
  first|go_ret|go_end0
  first
  | exact HA.out
  | exact cJ.of HA.out
  | exact HA.out.behind HFB.out
  | exact fE.mk HA.out):P:=hh
theorem iZ1 {E:Ev}{c n:Nat}{g:Bool}{w0:World}{P:Value->World->Prop}{T X:R Tr}{Q:Value->World->Prop} (h:∀ v w,Hid (Sx E c n g w0 (P v) T X w)->Q v w):∀ v w,Hid (Sx E c n g w0 (P v) T X w)->Q v w:=h
theorem kZ1 {E:Ev}{c n:Nat}{g:Bool}{w0:World}{P:World->Prop}{T X:R Tr}{w:World} (h:Hid (Sx E c n g w0 P T X w)):∃ Y,Hid (Y=X)/\Hid (Sx E c n g w0 P T Y w):=⟨X,hid rfl,h⟩
theorem ap_ {P:Prop} (hh:P:=by first|exact C' _|exact HO.out.fr.size|exact HO.out.ex.fr.size):P:=hh
theorem ol {P:Prop} (hh:P:=by
  have:=HL.out
  (try have:=HJ.out)
  (try simp)
  omega):P:=hh
theorem rl2 {P:Prop} (hh:P:=by
  first
  | exact⟨n,_,_,ol,H⟩
  | exact⟨n,_,_,true,rfl,ol,H⟩
  | exact⟨n,_,_,false,rfl,ol,H⟩):P:=hh
theorem hl_ {P:Prop} (hh:P:=by
  have:=HL.out
  first|(simpa using this)|omega):P:=hh
theorem kd_ {P:Prop} (hh:P:=by
  have:=H.out.ex.kids
  repeat (first|exact this.1|replace this:=this.2)):P:=hh
theorem isc {f:FuncId}{a:Array Value}{w:World}{Q:Ending->World->Prop} (h:Calls Tryz.prog f a w Q):Calls Tryz.prog f a w Q:=h
theorem isk (K:Int) {f:FuncId}{a:Value}{w:World}{Q:Ending->World->Prop} (h:Calls Tryz.prog f #[a,.int .u8 K] w Q):Calls Tryz.prog f #[a,.int .u8 K] w Q:=h
theorem is0 {f:FuncId}{a b:Value}{w:World}{Q:Ending->World->Prop} (h:Calls Tryz.prog f #[a,b,.slice none 0 0] w Q):Calls Tryz.prog f #[a,b,.slice none 0 0] w Q:=h
theorem sf {P:Prop} (hh:P:=by first|exact .inl ⟨rfl,rfl⟩|exact .inr ⟨rfl,L.out⟩|exact .inr ⟨rfl,HLT.out⟩):P:=hh
theorem isa {E:Ev}{c n:Nat}{g:Bool}{w0:World}{P:World->Prop}{T:R Tr}{α:Type}{r:R α}{K:α->Nat->R Tr}{w:World} (h:Hid (Sx E c n g w0 P T (r.andThen K) w)):Hid (Sx E c n g w0 P T (r.andThen K) w):=h
theorem lQ4 {E:Ev}{S:AB}{c n:Nat}{g g2:Bool}{w0:World}{P:World->Prop}{T:R Tr}{F:F}{K:Tr->Nat->R Tr}{w:World} (h:Hid (Sx E c n g w0 P T ((S.t F n g2).andThen K) w)):Hid (Sx E c n g w0 P T ((S.t F n g2).andThen K) w):=h
theorem ist {E:Ev}{S:AB}{c n:Nat}{g:Bool}{w0:World}{P:World->Prop}{T:R Tr}{F:F}{w:World} (h:Hid (Sx E c n g w0 P T (S.t F n g) w)):Hid (Sx E c n g w0 P T (S.t F n g) w):=h
theorem isb {E:Ev}{c n:Nat}{g:Bool}{w0:World}{P:World->Prop}{a b:Bool}{w:World} (h:Hid (Sx E c n g w0 P (bR a) (bR b) w)):Hid (Sx E c n g w0 P (bR a) (bR b) w):=h
theorem isn {E:Ev}{c n:Nat}{g:Bool}{w0 w1:World}{p:Nat}{k:UInt8}{wd:Int}{f t:Nat}{kv:Value}{ps0:List Nat}{ts0:List Tr}{ps:List Nat}{ts:List Tr}{T X:R Tr}{w:World} (h:Hid (Sx E c n g w0 (Nd E c w1 p k wd f t kv ps0 ts0 ps ts) T X w)):Hid (Sx E c n g w0 (Nd E c w1 p k wd f t kv ps0 ts0 ps ts) T X w):=h
theorem isw {E:Ev}{c n:Nat}{g:Bool}{w0 w1:World}{v:Value}{ps:List Nat}{ts:List Tr}{rs:List Nat}{us:List Tr}{T X:R Tr}{w:World} (h:Hid (Sx E c n g w0 (Rw E c w1 v ps ts rs us) T X w)):Hid (Sx E c n g w0 (Rw E c w1 v ps ts rs us) T X w):=h
theorem iso {E:Ev}{c n:Nat}{g:Bool}{w0:World}{P:World->Prop}{T:R Tr}{u:Tr}{w:World} (h:Hid (Sx E c n g w0 P T (.ok u n) w)):Hid (Sx E c n g w0 P T (.ok u n) w):=h
theorem re_ {P:Prop} (hh:P:=by exact dr):P:=hh
theorem ra_ {P:Prop} (hh:P:=by
  first
  | (go_at_call 108;refine RB H _ _ ‹_› ?_)
  | (go_at_call 21;refine OA H _ ?_)
  | (go_at_call 187;refine kB H (cZ1 H.out.rd ‹_›) ?_)
  | (go_at_call 186;refine kB H (dZ1 H.out.rd ⟨bx H HX,HX.out.2⟩ ‹_›) ?_)
  intro w H;have hbx:=bx H HX;have hat:=mQ4 H;exact rk_):P:=hh
theorem dc {P:Prop} (hh:P:=by
  first
  | (obtain⟨n,w,hm,hc,hw,hs,H⟩:=jQ4 H (hid (by have:=L.out;omega));rw [hw];(try rw [hs]);(try simp only [hc]);(try simp only [hc] at H);(try simp only [<- hm] at H);have HM:=hid hm;clear hm hc hw hs;exact dc)
  | (obtain⟨w,hw,hs,H⟩:=ZQ3 H K1 le_;rw [hw];(try rw [hs]);clear hw hs;exact dc)
  | (obtain⟨w,hw,hs,H⟩:=ZQ3 H K2 le_;rw [hw];(try rw [hs]);clear hw hs;exact dc)
  | (obtain⟨w,hw,hs,H⟩:=ZQ3 H K3 le_;rw [hw];(try rw [hs]);clear hw hs;exact dc)
  | (obtain⟨w,hw,hs,H⟩:=fQ4 H n le_;rw [hw];(try rw [hs]);clear hw hs;exact dc)
  | (obtain⟨w,hw,hs,H⟩:=fQ4 H m le_;rw [hw];(try rw [hs]);clear hw hs;exact dc)
  | (with_reducible refine isc ?_
     first
     | (go_at_call 76;refine cA H ?_;intro w H;exact dr)
     | (go_at_call 74;(with_reducible have H:=isa H);refine FA H up ?_;intro n w H;exact dr)
     | (go_at_call 74;refine IJ H Y ?_;intro n w hm H;(try simp only [<- hm] at H);have HM:=hid hm;clear hm;exact dr)
     | (go_at_call 73;refine gQ4 H KO ?_;intro p w H;exact dr)
     | (go_at_call 118;(with_reducible have H:=iso H);refine UQ3 H rfl ?_;intro q w HA;exact dn)
     | (go_at_call 118;(first|((with_reducible refine isk 0 ?_);refine IA H 0 ?_)|((with_reducible refine isk 11 ?_);refine IA H 11 ?_)|((with_reducible refine isk 49 ?_);refine IA H 49 ?_));intro q w H;exact dr)
     | (go_at_call 118;(with_reducible have H:=isw H);(first|((with_reducible refine isk 0 ?_);refine sS H 0 ?_)|((with_reducible refine isk 49 ?_);refine sS H 49 ?_));intro q w H;exact dr)
     | (have _:=RK;go_at_call 80;(with_reducible refine is0 ?_);(with_reducible have H:=iso (isn H));refine (aP H).mono ?_;rintro e w ⟨rfl,HA⟩;exact dn)
     | (go_at_call 80;(with_reducible have H:=iso (isn H));refine Calls.mono (VQ3 H ?_ ?_ ?_) ?_;exact sb;rfl;simp;rintro e w ⟨rfl,HA⟩;exact dn)
     | (go_at_call 80;(with_reducible have H:=isn H);(with_reducible have HO:=isn HO);refine (mU HO H Cu).mono ?_;rintro e w ⟨rfl,H⟩;exact dr)
     | (go_at_call 80;(with_reducible have H:=isn H);(with_reducible have HO:=isw HO);refine (NL HO H Cu).mono ?_;rintro e w ⟨rfl,H⟩;exact dr)
     | (go_at_call 80;(with_reducible have H:=isw H);refine (NG HO H Jh).mono ?_;rintro e w ⟨rfl,HA⟩;exact dn)
     | (go_at_call 80;(with_reducible have H:=isn H);refine Calls.mono (VQ3 H ?_ ?_ ?_) ?_;exact sb;rfl;simp;rintro e w ⟨rfl,HA⟩;exact dn)
     | (go_at_call 125;have HO:=H;refine xG H hkk (by first|exact El.meth HA.out _ Ct Cu (Cw)|exact El.tparam HA.out (bx H HX) HX.out.2|exact EL.out) up ?_;intro v rs u n w hl H;have HL:=hid (An hl hkk);clear hl;exact dr)
     | (go_at_call 78;(with_reducible have HO:=isn HO);refine hQ4 HO H KL hl_ ?_;intro q w H;exact dr)
     | (go_at_call 78;refine aQ4 H KL hl_ ?_;intro q w H;exact dr)
     | (go_at_call 44;refine AD H _ rfl ?_;intro w H;exact dr)
     | (go_at_call 108;refine RB H _ _ rfl ?_;intro w H;exact dr)
     | (go_at_call 21;refine OA H _ ?_;intro w H;exact dr)
     | (go_at_call 185;refine QY H _ _ rfl ?_;intro w H;exact dr)
     | (have _:=MG;go_at_call 43;refine nO H ?_;intro n b w hm H;(try simp only [<- hm] at H);have HM:=hid hm;clear hm;exact dr)
     | (go_at_call 43;refine bQ4 H ?_ ?_;(intro n w hm hd H;(try simp only [hd,bs,df_,reduceCtorEq] at H);(try simp only [<- hm] at H);have HM:=hid hm;clear hm;exact dr);(intro w hd H;(try simp only [hd,bs,df_,reduceCtorEq] at H);exact dr))
     | (go_at_call 240;refine fZ1 H kd_ HS ?_ ?_;(intro w ha H;(try simp only [ha] at H);clear ha;exact dr);(intro a y q r w ha H;(try simp only [ha] at H);clear ha;exact dr))
     | (go_at_call 45;exact rG H up)
     | (go_at_call 115;refine cE H (fun hr=>ZE HD.out H.out.rd H.out.ex Cu (fun e=>hr Eu)) up ?_;intro q w HA;exact dn)
     | (go_at_call 233;refine FS H (fun hr=>HD.out.slice _ _ _ _ _ _ _ _ _ _ _ _ _ _ H.out.rd H.out.ex hr) up ?_;intro w HA;exact dn)
     | (go_at_call 110;refine cE H (fun hr=>HD.out.row _ _ _ _ _ _ _ H.out.rd H.out.ex hr) up ?_;intro q w HA;exact dn)
     | (have _:=MF;go_at_call 112;refine cE H (fun hr=>HD.out.members 20 .field _ _ _ _ _ _ _ _ _ _ rfl H.out.rd H.out.ex (fun e=>hr Eu)) up ?_;intro q w HA;exact dn)
     | (go_at_call 112;refine cE H (fun hr=>HD.out.members 23 .elem _ _ _ _ _ _ _ _ _ _ rfl H.out.rd H.out.ex (fun e=>hr Eu)) up ?_;intro q w HA;exact dn)
     | (go_at_call 156;refine kB H (fI H.out.rd) ?_;intro w H;exact dr)
     | (go_at_call 160;refine kB H (jK H.out.rd) ?_;intro w H;exact dr)
     | (go_at_call 206;refine kB H (ZO H.out.rd) ?_;intro w H;exact dr)
     | (go_at_call 231;refine kB H (vJ H.out.rd _) ?_;intro w H;exact dr)
     | (go_at_call 187;refine kB H (bH H.out.rd _) ?_;intro w H;exact dr)
     | ((with_reducible have H:=isa H)
        first
        | (go_at_call 75;refine lG H up ?_;intro q t n w H;exact dr)
        | (go_at_call 75;refine RK H up ?_;intro q t n w H;exact dr)
        | (go_at_call 237;refine DL H (fun hr=>SE H.out.rd HD.out _ Ct ⟨rfl,rfl⟩ Cw hr) up ?_;intro q t n w HE H;have HS:=hid (HSO.out.t _ _ true (by trivial) _ _ HE.out);clear HE;exact dr)
        | (go_at_call 238;refine WL H kd_ HS up ?_;intro q t n w H;exact dr)
        | (go_at_call 237;refine TB H (fun hr=>SE H.out.rd HD.out _ Ct ⟨rfl,rfl⟩ Cw hr) up ?_;intro q t n w H;exact dr)
        | (go_at_call 69;refine TB H (fun hr=>PK H.out.rd HD.out _ Ct ⟨rfl,rfl⟩ Cw hr) up ?_;intro q t n w H;exact dr)
        | (go_at_call 239;refine TB H (fun hr=>HD.out.clauses _ _ c _ g _ Cu H.out.rd hr) up ?_;intro q t n w H;exact dr)
        | (go_at_call 159;refine kW H up ?_;intro q t n w H;exact dr)
        | ((with_reducible have H:=lQ4 H);refine WQ3 H HD up ⟨rfl,Ct⟩ sf ?_;intro q t n w H;exact dr)
        | ((with_reducible have H:=lQ4 H);refine aZ1 H HD up ⟨rfl,Ct⟩ sf ?_;intro q t n w H;exact dr)
        | (refine TB H (C1 HD.out H.out.rd) up ?_;intro q t n w H;exact dr)
        | (refine TB H (C2 HD.out H.out.rd) up ?_;intro q t n w H;exact dr))
     | (go_at_call 75;refine pG H (fun _=>yJ H.out.rd) up ?_;intro q w HA;exact dn)
     | (go_at_call 120;refine pG H (fun _=>IL H.out.rd 27 true (fun _=>UX h16_)) up ?_;intro q w HA;exact dn)
     | (go_at_call 204;refine cE H (fun hr=>(HD.out.rest _ _ _ _ _ _ _ _ _ _ H.out.rd H.out.ex hr).mono (fun _ _ h=>h.2)) up ?_;intro q w HA;exact dn)
     | (go_at_call 159;refine pG H (fun _=>FN H.out.rd) up ?_;intro q w HA;exact dn)
     | ((with_reducible have H:=ist H);refine iQ4 H HD up ⟨rfl,Ct⟩ sf ?_;intro q w HA;exact dn)
     | (refine pG H (C1 HD.out H.out.rd) up ?_;intro q w HA;exact dn))
  | (have _:=RK;exact rgK)
  | (have _:=RR
     have hb0_:=bx H HX;have ha0_:=mQ4 H;have H:=yC H;have hb1_:=bx H HX;have ha1_:=mQ4 H;refine rs_ (fun w'=>w'.cell? (y8 B 0)=some (p8 c)/\w'.cell? (y8 c 3)=some (i8 (n:Int))) ?_;intro hHeld;exact rr_)
  | (have hb0_:=bx H HX
     have H:=yC H;have hb1_:=bx H HX
     go_region_held (fun w'=>w'.cell? ⟨B,0,none⟩=some (p8 c)) (first|(first|assumption|exact aA ((N' _ _).alloc (C' _) _) ‹_›)) (first|(go_at_call 118;refine IA H 0 ?_;intro q w H;have hb2_:=bx H HX)|(go_at_call 80;(with_reducible have H:=iso (isn H));refine Calls.mono (VQ3 H ?_ ?_ ?_) ?_;exact sb;rfl;simp;rintro e w ⟨rfl,HA⟩;have hb2_:=(Ans.fr HA.out).cell (a:=⟨B,0,none⟩) Cx HX.out.1)|((with_reducible have H:=lQ4 H);refine WQ3 H HD up ⟨rfl,Ct⟩ sf ?_;intro q t n w H;have hb2_:=bx H HX))
     first|exact dn|exact dr)
  | (go_roundg j;(case measure=>omega);exact rl2)
  | (go_ret;first|((with_reducible have H:=isb H);first|exact gC H|exact (gC H).behind HFB.out)|((with_reducible have H:=isn H);first|exact XQ3 H sb le_|exact (XQ3 H sb le_).behind HFB.out|exact fE.mk (XQ3 H sb le_))|((with_reducible have H:=isw H);first|exact YQ3 H sb le_|exact (YQ3 H sb le_).behind HFB.out))
 ):P:=hh
theorem dr {P:Prop} (hh:P:=by
  have hat_:=mQ4 H;have hsm_:=qQ4 H;have hfz_:=oQ4 H
  try obtain⟨hk0_,hk1_,hk2_,hk4_,hf0_,hf1_⟩:=nQ4 H
  try have hb_:=bx H HX
  go_wp2_with (at_builtin;obtain⟨X_,hX_,H⟩:=kZ1 H;refine iC rfl _ _ rfl H ap_ rfl rfl ol ?_)
  all_goals first
    | ((with_reducible refine iZ1 ?_);intro v w H;have H:=Sx.re H hX_.out;clear hX_;exact dr)
    | (skip
       clear hat_ hsm_ hfz_
       try clear hk0_ hk1_ hk2_ hk4_ hf0_ hf1_
       try clear hb_
       try ((with_reducible rename _/\_=>h1_);obtain⟨_,_⟩:=h1_)
       try ((with_reducible rename _∨_=>h2_);cases h2_)
       all_goals
         repeat (with_reducible rename ¬(_=true)=>h3_;replace h3_:=eq_false_of_ne_true h3_)
         try (rename (!_)=true=>h4_;replace h4_:=nt_ h4_)
         try (rename (!_)=false=>h5_;replace h5_:=nf_ h5_)
         repeat (rename ¬(Env.word _ _=_)=>h6_;replace h6_:=kQ4 h6_)
         repeat (rename (Env.word _ _=_)->False=>h7_;replace h7_:=kQ4 h7_)
         try (with_reducible rename Env.word _ _=_=>h8_;replace h8_:=pQ4 h8_)
         try (rename (Env.word _ _==_)=false=>h9_;exact (bbf h9_ ‹_›).elim)
         try (rename (Env.word _ _==_)=true=>h10_;exact (bbf ‹_› h10_).elim)
         try (rename (Env.word _ _==_)=true=>h21_;revert h21_;rename (Env.word _ _==_)=true=>h22_;intro h21_;exact (ww h21_ h22_ rfl).elim)
         repeat (rename (Env.word _ _==_)=false=>h11_;(with_reducible first|have hd:=cQ4 h11_|have hd:=eQ4 h11_|have hd:=dQ4 h11_|have hd:=h11_);(try simp only [hd,bs,df_,reduceCtorEq] at H);clear hd;revert h11_)
         try intros
         try (rename (Env.word _ _==_)=true=>h12_;(with_reducible first|have hd:=cQ4 h12_|have hd:=eQ4 h12_|have hd:=dQ4 h12_|have hd:=h12_);(try simp only [hd,bs,df_,reduceCtorEq] at H);(try (have L:=hid (gA hd);have Y:=hid hd));clear hd)
         try (with_reducible rename Env.named _ _=_=>h13_;simp only [h13_,bs,df_,reduceCtorEq] at H)
         try (with_reducible rename Env.ended _ _=_=>h14_;simp only [h14_,bs,df_,reduceCtorEq] at H)
         try (with_reducible rename Env.quoted _ _=_=>h15_;simp only [h15_,bs,df_,reduceCtorEq] at H)
         try (with_reducible rename Env.literal _ _=_=>h16_;simp only [h16_,bs,df_,reduceCtorEq] at H)
         try (with_reducible rename quiet _ _=_=>h17_;simp only [h17_,bs,df_,reduceCtorEq] at H)
         try (with_reducible rename generic _ _=_=>h18_;simp only [h18_,bs,df_,reduceCtorEq] at H)
         try (with_reducible rename Prod.snd _=_=>h20_;simp only [h20_,bs,df_,reduceCtorEq] at H)
         try (with_reducible rename bare _ _=_=>h19_;simp only [h19_,bs,df_,reduceCtorEq] at H)
         all_goals exact dc)):P:=hh
end
