import Derived.Test.YtfmpphplbdojbaaGreatDoorQAG
namespace Go.Proofs.YtfmpphplbdojbaaGreatDoor
open Lib(hid)
set_option linter.all false
set_option maxHeartbeats 40000000
set_option maxRecDepth 100000
section
open Go.RowKit
def tX (E:Ev) (c:Nat) (g:Bool) (k:Nat) (X:List Nat) (St:Int->World->Prop) (r:R (List Tr × Int)) (w:World) (e:Ending) (w':World):Prop :=
 match r with
 | .ok p n=>∃ v ps,e=.returned v/\Rd E c n g w'/\Row w v ps p.1 w'/\Fr X w w'/\St p.2 w'/\ps.length<=k
 | .bad k=>e=Up k/\(∃ g',Rd E c k g' w')/\Fr X w w'
 | .out=>False
def mV (E:Ev) (c:Nat) (g:Bool) (X:List Nat) (St:Int->World->Prop) (r:R (Tr × Int)) (w:World) (e:Ending) (w':World):Prop :=
 match r with
 | .ok u n=>∃ p,e=.returned (.pointer (some ⟨p,0,none⟩))/\Rd E c n g w'/\EA w' w.heap.size w'.heap.size p u.1/\Fr X w w'/\St u.2 w'
 | .bad k=>e=Up k/\(∃ g',Rd E c k g' w')/\Fr X w w'
 | .out=>False
def zM (E:Env) (S:AB) (o:One) (word:Int) (n:Nat) (g:Bool):R (Tr × Int):=match o with
 | .call=>if 0<=word then .bad n else (S.t .expr n g).andThen fun x n1=>if E.is n1 [46,46,46] then .ok (x,(n1:Int)) (n1+1) else .ok (x,word) n1
 | o=>(S.t (.one o) n g).andThen fun x n1=>.ok (x,word) n1
def vV:Value->Nat|.slice _ n _=>n|_=>0
def bW (E:Ev) (c:Nat) (g:Bool) (k:Nat) (X:List Nat) (St:Int->World->Prop) (mark shut:List UInt8) (o:One) (r:R (List Tr × Int)) (w0:World) (v:Value) (w':World):Prop :=
 ∃ (j n:Nat) (acc:List Tr) (ps:List Nat) (word:Int),j<=k/\Rd E c n g w'/\Row w0 v ps acc w'/\Fr X w0 w'/\St word w'/\(kA E.toEnv j).l mark shut o acc word n g=r/\ps.length+j<=k
theorem xV {E:Env}{S:AB}{mark shut:List UInt8}{o:One} (acc:List Tr) (word:Int) (n:Nat) (g:Bool) (hn:E.is n shut=false) :
  LF E S mark shut o acc word n g=(zM E S o word n g).andThen fun p n1=>if E.is n1 shut then S.l mark shut o (acc++[p.1]) p.2 n1 g else (want E mark n1).andThen fun _ n2=>S.l mark shut o (acc++[p.1]) p.2 n2 g:=by
 unfold LF zM;rw [if_neg (by rw [hn];decide)]
 rfl
theorem EO {E:Ev}{c n:Nat}{g:Bool}{w:World} (h:Rd E c n g w) (k:Nat) (hk:k<=1099511627776) (x y z:UInt8) (op mark shut:List UInt8) (o:One) (f:FuncId) (first cap:Array Value)
  (hcf:∀ w1,Sem.run Tryz.prog (callFunc f (first++cap)) w1=.ok (.enter f (first++cap)) w1) (X:List Nat) (hX:∀ i∈X,i < w.heap.size) (hcX:c∈X) (St:Int->World->Prop)
  (hSt:∀ wd a b,St wd a->w.heap.size<=a.heap.size->(∀ i,i < w.heap.size->i≠c->b.heap[i]?=a.heap[i]?)->St wd b) (hS0:St (-1) w)
  (HO:∀ j n1 word w1,j < k->Rd E c n1 g w1->Fr X w w1->St word w1->zM E.toEnv (kA E.toEnv j) o word n1 g≠.out->Calls Tryz.prog f (first++cap) w1 (mV E c g X St (zM E.toEnv (kA E.toEnv j) o word n1 g) w1))
  (hr:rows E.toEnv (kA E.toEnv k) (x::op) (y::mark) (z::shut) o n g≠.out) :
  Calls Tryz.prog 160 #[.pointer (some ⟨c,0,none⟩),.string ⟨(x::op).toArray⟩,.string ⟨(y::mark).toArray⟩,.string ⟨(z::shut).toArray⟩,.func (.func f) first cap] w
   (tX E c g k X St (rows E.toEnv (kA E.toEnv k) (x::op) (y::mark) (z::shut) o n g) w):=by
 obtain⟨iP,hiP,hz0,hz1,hz2⟩:=info_parts Tryz.infoP;have hcw:=h.lt;have HZL:=hid h.zlt;have HW:=hid (NH h x op);have HOh:=hid HO;have hb4:∀ wd (a b:World),St wd a->w.heap.size<=a.heap.size->Below a.heap.size a b->St wd b:=fun wd a b s z hb=>hSt wd a b s z (fun i hi _=>hb.block i Cf)
 have hf4:∀ wd (a b:World),St wd a->w.heap.size<=a.heap.size->Fr [c] a b->St wd b:=fun wd a b s z hb=>hSt wd a b s z (fun i hi hne=>hb.block i Cf Hg)
 have hw4:∀ a b:World,Fr [c] a b->Fr X a b:=fun a b hb=>hb.weaken (fun i _ hi=>by simp at hi;rw [hi];exact hcX)
 have HP:=hid (And.intro hX (And.intro hSt (And.intro hb4 (And.intro hf4 (And.intro hw4 hS0)))));unfold rows at hr ⊢;clear HO h hX hSt hb4 hf4 hw4 hS0;go_enter Tryz.func160,Tryz.ntmps160;go_wp2_with fail;refine HW.out.mono ?_;rintro e w1 hD;clear HW;generalize hw:want E.toEnv (x::op) n=rw0 at *;cases rw0 with
 | out=>exact hD.elim
 | bad k2 =>
  obtain⟨rfl,q1,q2⟩:=hD;exact⟨rfl,by rw [hw];exact⟨rfl,q1,HP.out.2.2.2.2.1 _ _ q2⟩⟩
 | ok u n1 =>
  obtain⟨rfl,hR1,hF1⟩:=hD;have hfin:(want E.toEnv (x::op) n).andThen (fun _ n1=>(kA E.toEnv k).l (y::mark) (z::shut) o [] (-1) n1 g)=(kA E.toEnv k).l (y::mark) (z::shut) o [] (-1) n1 g:=by rw [hw];rfl
  have HFin:=hid hfin;simp only [R.andThen] at hr;clear hfin;generalize hrr:(kA E.toEnv k).l (y::mark) (z::shut) o [] (-1) n1 g=r at *;have hST:bW E c g k X St (y::mark) (z::shut) o r w (.slice none 0 0) w1:=⟨k,n1,[],[],-1,C' _,hR1,⟨As _ _ _ _,trivial⟩,HP.out.2.2.2.2.1 _ _ hF1,HP.out.2.2.2.1 _ _ _ HP.out.2.2.2.2.2 (C' _) hF1,hrr,Cm⟩;have HST:=hid hST;have Hr:=hid hr;have HRR:=hid hrr;clear hST hR1 hF1 hrr hr hw;go_wp2_with fail
  go_loopw [11] (fun u11 w'=>bW E c g k X St (y::mark) (z::shut) o r w u11 w') (fun u11 _=>k - vV u11)
  case atStart=>exact HST.out
  case round =>
   clear HST;obtain⟨j,m,acc,ps,wd,hjk,hR,hRow,hF,hS,hl,hps⟩:=hrel;cases j with
   | zero=>exact absurd hl.symm Hr.out
   | succ j =>
    obtain⟨va,vc,rfl⟩:=xB hRow.1;have hl:LF E.toEnv (kA E.toEnv j) (y::mark) (z::shut) o acc wd m g=r:=hl;have HN:=hid (pE hR);have HR:=hid (And.intro hR (And.intro hRow (And.intro hF hS)));cases hz:E.is m (z::shut) with
    | true =>
     have hd:(E.word m==z::shut)=true:=hz;have hres:r=.ok (acc,wd) m:=by rw [<- hl];unfold LF;rw [if_pos hz]
     have HRes:=hid hres;have hpk:ps.length<=k:=Cf
     clear hl hz hres hR hRow hF hS;go_wp2_with fail;refine HN.out.mono ?_;rintro e w2 ⟨rfl,hb⟩;go_wp2_with fail;go_ret;obtain⟨hR,hRow,hF,hS⟩:=HR.out;rw [HFin.out,HRes.out];exact⟨_,ps,rfl,hR.below hb,hRow.later (lA c hb) hcw hF.size,hF.trans (Fr.below hb),HP.out.2.2.1 _ _ _ hS hF.size hb,hpk⟩
    | false =>
     have hd:(E.word m==z::shut)=false:=hz;have hl2:=hl;rw [xV acc wd m g hz] at hl2;generalize hre:zM E.toEnv (kA E.toEnv j) o wd m g=re at hl2;have hne:re≠.out:=fun e=>by rw [e] at hl2;exact Hr.out hl2.symm
     have HL:=hid hl2;have HE:=hid hre;have hjk':j < k:=Cf
     have hpl:ps.length+1<=k:=Cf
     have HNE:=hid hne;clear hl hl2 hz hre hR hRow hF hne hS;go_wp2_with fail;refine HN.out.mono ?_;rintro e w2 ⟨rfl,hb⟩;have hR2:=HR.out.1.below hb;have hRow2:=HR.out.2.1.later (lA c hb) hcw HR.out.2.2.1.size;have hF2:=HR.out.2.2.1.trans (Fr.below hb);have hS2:=HP.out.2.2.1 _ _ _ HR.out.2.2.2 HR.out.2.2.1.size hb;have HC:=hid (HOh.out j m wd w2 hjk' hR2 hF2 hS2 (by rw [HE.out];exact HNE.out));have H2:=hid (And.intro hR2 (And.intro hRow2 hF2));clear hR2 hRow2 hF2 hS2;go_wp2_with fail;refine HC.out.mono ?_;rintro e w3 hA;rw [HE.out] at hA;clear HC HN HR hb;cases re with
     | out=>exact hA.elim
     | bad k2 =>
      obtain⟨rfl,q1,q2⟩:=hA;refine⟨rfl,?_⟩;rw [HFin.out,<- HL.out];exact⟨rfl,q1,H2.out.2.2.trans q2⟩
     | ok t m1 =>
      obtain⟨p,rfl,q1,q2,q3,q4⟩:=hA;obtain⟨_,hRow2,hF2⟩:=H2.out;have hRow3:=hRow2.laterX q3 HP.out.1;have hF3:=hF2.trans q3;have hsz2:=hF2.size;have hsz3:=hF3.size;have hrow:=hRow3.1;have hB:=(J' w3.heap.size w3).alloc (C' _) (Obj.cells #[.pointer (some ⟨p,0,none⟩)] 51);have hvlt:∀ b,(Value.slice va ps.length vc).ownBlock=some b->w.heap.size<=b/\b < w2.heap.size:=fun b hb=>hRow2.1.lt b hb
      have HQ:=hid (And.intro q1 (And.intro q2 (And.intro hRow3 (And.intro hF3 (And.intro hvlt q4)))));clear q1 q2 q3 q4 hRow2 hF2 hRow3 hF3 H2;have hbz:w.heap.size<=(w3.alloc (Obj.cells #[.pointer (some ⟨p,0,none⟩)] 51)).heap.size:=Cn
      go_wp2_with (at_builtin;refine wpList_append_own_at _ rfl _ _ 59 rfl w.heap.size 51 iP _ 1 8 Tryz.underlying59 hiP hz0 hz1 hz2 rfl Ch _ _ _ rfl (hrow.alloc _) ⟨w3.heap.size,0,none⟩ 1 1 (GB [p]) rfl rfl (Aq (cs:=#[.pointer (some ⟨p,0,none⟩)]) (t:=51) (fr:=(0,0)) (heap_alloc_new w3 _)) (zG _) Cu Cf hbz ?_);intro v1 w5 hown hgrow _ hat;obtain⟨v5,c5,rfl⟩:=xB hown;obtain⟨q1,q2,hRow3,hF3,hvlt,q4⟩:=HQ.out;have hg5:=hgrow.size;have ha5:w3.heap.size+1=(w3.alloc (Obj.cells #[.pointer (some ⟨p,0,none⟩)] 51)).heap.size:=Cm
      have hRow5:Row w (.slice v5 (ps.length+1) c5) (ps++[p]) (acc++[t.1]) w5 :=
       Row.more hRow3 q2 hsz2 (fun b hb=>(hvlt b hb).2) hown (fun b hb hne=>Do) Cf
        (hat.imp id (fun e=>⟨_,e,Cf⟩))
      have hX:Fr (YD (.slice va ps.length vc)) (w3.alloc (Obj.cells #[.pointer (some ⟨p,0,none⟩)] 51)) w5:=Fr.grown hgrow (fun k hk=>Hw);have hXm:∀ i∈YD (.slice va ps.length vc),w.heap.size<=i:=by
       intro i hi;unfold YD at hi;split at hi
       ·rename_i b2 hb2;simp at hi;subst hi;exact (hvlt _ hb2).1
       ·simp at hi
      have hF5:Fr X w w5:=(hF3.trans (Fr.below hB)).trans' hX (fun i hi=>.inr (hXm i hi));have hS5:St t.2 w5:=by
       have s1:=HP.out.2.2.1 _ _ _ q4 hsz3 hB;exact HP.out.2.1 _ _ _ s1 Cf (fun i hi _=>hX.block i Cf (fun m=>by have:=hXm i m;omega))
      have hR5:=(q1.below hB).later hX (fun i hi=>Fz) (HZL.out.imp id (fun h m=>by have:=hXm _ m;omega));have HN5:=hid (pE hR5);have H5:=hid (And.intro hR5 (And.intro hRow5 (And.intro hF5 hS5)));clear hRow5 hX hXm hF5 hR5 q1 q2 hRow3 hF3 hvlt hS5 q4 hown hgrow hat hrow hB hbz HQ;cases hz5:E.is m1 (z::shut) with
      | true =>
       have hd5:(E.word m1==z::shut)=true:=hz5;have hL5:(kA E.toEnv j).l (y::mark) (z::shut) o (acc++[t.1]) t.2 m1 g=r:=by
        have:=HL.out;simp only [R.andThen] at this;rw [if_pos hz5] at this;exact this
       have HL5:=hid hL5;clear hL5 hz5;go_wp2_with fail;refine HN5.out.mono ?_;rintro e w6 ⟨rfl,hb⟩;go_wp2_with fail;go_roundw
       case rel =>
        obtain⟨hR5,hRow5,hF5,hS5⟩:=H5.out;exact⟨j,m1,acc++[t.1],ps++[p],t.2,Cf,hR5.below hb,hRow5.later (lA c hb) hcw hF5.size,hF5.trans (Fr.below hb),HP.out.2.2.1 _ _ _ hS5 hF5.size hb,HL5.out,Cn⟩
       case measure=>simp only [vV];omega
      | false =>
       have hd5:(E.word m1==z::shut)=false:=hz5;have hL5:((want E.toEnv (y::mark) m1).andThen fun _ n2=>(kA E.toEnv j).l (y::mark) (z::shut) o (acc++[t.1]) t.2 n2 g)=r:=by
        have:=HL.out;simp only [R.andThen] at this;rw [if_neg (by rw [hz5];decide)] at this;exact this
       have HL5:=hid hL5;clear hL5 hz5;go_wp2_with fail;refine HN5.out.mono ?_;rintro e w6 ⟨rfl,hb⟩;obtain⟨hR5,hRow5,hF5,hS5⟩:=H5.out;have HW6:=hid (NH (hR5.below hb) y mark);have H6:=hid (And.intro (hRow5.later (lA c hb) hcw hF5.size) (And.intro (hF5.trans (Fr.below hb)) (HP.out.2.2.1 _ _ _ hS5 hF5.size hb)));clear hR5 hRow5 hF5 hS5 H5 HN5 hb;generalize hw6:want E.toEnv (y::mark) m1=rw6 at HW6 HL5;go_wp2_with fail;refine HW6.out.mono ?_;rintro e w7 hD;clear HW6;cases rw6 with
       | out=>exact hD.elim
       | bad k2 =>
        obtain⟨rfl,q1,q2⟩:=hD;refine⟨rfl,?_⟩;rw [HFin.out,<- HL5.out];exact⟨rfl,q1,H6.out.2.1.trans (HP.out.2.2.2.2.1 _ _ q2)⟩
       | ok u n7 =>
        obtain⟨rfl,hR7,hF7⟩:=hD;clear hw6;go_wp2_with fail;go_roundw
        case rel=>exact⟨j,n7,acc++[t.1],ps++[p],t.2,Cf,hR7,H6.out.1.later hF7 hcw H6.out.2.1.size,H6.out.2.1.trans (HP.out.2.2.2.2.1 _ _ hF7),HP.out.2.2.2.1 _ _ _ H6.out.2.2 H6.out.2.1.size hF7,HL5.out,Cn⟩
        case measure=>simp only [vV];omega
end
section
open Go.RowKit
def bR (b:Bool):R Tr:=.bad b.toNat
theorem DY {a b:Bool} (h:bR a=bR b):a=b:=by
 cases a <;> cases b <;> simp [bR] at h ⊢
theorem QL {b:Bool}:bR b≠.out:=by unfold bR;intro h;cases h
def xF (E:Ev) (c n:Nat) (g:Bool) (v:Value) (w:World) (e:Ending) (w':World):Prop:=e=.returned v/\Rd E c n g w'/\Fr [c] w w'
section
variable {E:Ev}{S:AB}{c n:Nat}{g:Bool}{w0:World}{P:World->Prop}{T X:R Tr}{w:World}{Q:Ending->World->Prop}
theorem kB {fn:FuncId}{args:Array Value}{v:Value} (h:Hid (Sx E c n g w0 P T X w)) (hC:Calls Tryz.prog fn args w (xF E c n g v w)) (hQ:∀ w',Hid (Sx E c n g w0 P T X w')->Q (.returned v) w'):Calls Tryz.prog fn args w Q:=by
 refine hC.mono ?_;rintro e w' ⟨rfl,q1,q2⟩;exact hQ w' (h.out.step q2 q1 rfl)
theorem gC {b1 b2:Bool} (h:Hid (Sx E c n g w0 P (bR b1) (bR b2) w)):xF E c n g (.bool b1) w0 (.returned (.bool b2)) w:=⟨by rw [DY h.out.eq],h.out.rd,h.out.fr⟩
end
section
variable {E:Ev}{S:AB}{c n:Nat}{g:Bool}{w:World}
theorem cG (h:Rd E c n g w) (i:Int):Calls Tryz.prog 208 #[.pointer (some ⟨c,0,none⟩),.int .i64 i] w (xF E c n g (.bool (E.quoted i)) w) :=
 (VI h i).mono fun e w' hb=>⟨hb.1,h.below hb.2,lA c hb.2⟩
theorem PK (h:Rd E c n g w) (H:aB E S) (F:F) (hf:xD F≠0) (hs:NF F=false/\okF F=true) (hcf:Tryz.prog.funcs[xD F]?.map (fun f=>(f.name== "runtime.NumGoroutine",f.body.isNone))=some (false,false)) (hr:S.t F n false≠.out) :
  Calls Tryz.prog 102 #[.pointer (some ⟨c,0,none⟩),.func (.func (xD F)) #[.pointer (some ⟨c,0,none⟩)] #[]] w (Ans E c g (S.t F n false) w):=by
 refine (GG h (xD F) #[.pointer (some ⟨c,0,none⟩)] #[] (fun w1=>?_) (S.t F n false) (fun _=>True) w (Fr.refl _ _) h.lt (fun w1 hR hF=>(H.t F c n false w1 hf (DA hs.1 hR.at_ hs.2) hR hr).mono (fun e w' hA=>⟨fun _ _=>trivial,hA.behind hF⟩))).mono (fun e w' hA=>hA.2);obtain⟨fn,h1,h2⟩:=Option.map_eq_some_iff.1 hcf;exact VE h1 Ew Ex _ _
theorem SE (h:Rd E c n g w) (H:aB E S) (F:F) (hf:xD F≠0) (hs:NF F=false/\okF F=true) (hcf:Tryz.prog.funcs[xD F]?.map (fun f=>(f.name== "runtime.NumGoroutine",f.body.isNone))=some (false,false)) (hr:S.t F n true≠.out) :
  Calls Tryz.prog 248 #[.pointer (some ⟨c,0,none⟩),.func (.func (xD F)) #[.pointer (some ⟨c,0,none⟩)] #[]] w (Ans E c g (S.t F n true) w):=by
 refine (QO h (xD F) #[.pointer (some ⟨c,0,none⟩)] #[] (fun w1=>?_) (S.t F n true) (fun _=>True) w (Fr.refl _ _) h.lt (fun w1 hR hF=>(H.t F c n true w1 hf (DA hs.1 hR.at_ hs.2) hR hr).mono (fun e w' hA=>⟨fun _ _=>trivial,hA.behind hF⟩))).mono (fun e w' hA=>hA.2);obtain⟨fn,h1,h2⟩:=Option.map_eq_some_iff.1 hcf;exact VE h1 Ew Ex _ _
end
theorem cF {f:FuncId} (hcf:Tryz.prog.funcs[f]?.map (fun f=>(f.name== "runtime.NumGoroutine",f.body.isNone))=some (false,false)) (args:Array Value) (w:World):Sem.run Tryz.prog (callFunc f args) w=.ok (.enter f args) w:=by
 obtain⟨fn,h1,h2⟩:=Option.map_eq_some_iff.1 hcf;exact VE h1 Ew Ex _ _
structure El (E:Ev) (c:Nat) (g:Bool) (k:Nat) (w:World) (o:One) (f:FuncId) (first cap:Array Value):Prop where
 cf:∀ w1,Sem.run Tryz.prog (callFunc f (first++cap)) w1=.ok (.enter f (first++cap)) w1
 nc:o≠.call
 does:∀ j n1 w1,j < k->Rd E c n1 g w1->Fr [c] w w1->(kA E.toEnv j).t (.one o) n1 g≠.out->Calls Tryz.prog f (first++cap) w1 (Ans E c g ((kA E.toEnv j).t (.one o) n1 g) w1)
theorem RR {E:Env}{S:AB}{o:One} (ho:o≠.call) (word:Int) (n:Nat) (g:Bool):zM E S o word n g=(S.t (.one o) n g).andThen fun x n1=>.ok (x,word) n1:=by
 cases o <;> first|rfl|exact absurd rfl ho
section
variable {E:Ev}{c n k:Nat}{g:Bool}{w0:World}{P:World->Prop}{T X:R Tr}{w:World}{Q:Ending->World->Prop}
theorem El.meth (H:∀ j,j<=k->aB E (kA E.toEnv j)) (o:One) (hf:xD (.one o)≠0) (ho:o≠.call) (hcf:Tryz.prog.funcs[xD (.one o)]?.map (fun f=>(f.name== "runtime.NumGoroutine",f.body.isNone))=some (false,false)) :
  El E c g k w o (xD (.one o)) #[.pointer (some ⟨c,0,none⟩)] #[]:=by
 refine⟨fun w1=>?_,ho,fun j n1 w1 hj hR _ hr=>(H j Cf).t (.one o) c n1 g w1 hf (DA rfl hR.at_) hR hr⟩;obtain⟨fn,h1,h2⟩:=Option.map_eq_some_iff.1 hcf;exact VE h1 Ew Ex _ _
theorem xG {K:List Tr × Int->Nat->R Tr}{x y z:UInt8}{op mark shut:List UInt8}{o:One}{f:FuncId}{first cap:Array Value}
  (h:Hid (Sx E c n g w0 P T ((rows E.toEnv (kA E.toEnv k) (x::op) (y::mark) (z::shut) o n g).andThen K) w)) (hk:k<=1099511627776) (he:El E c g k w o f first cap) (hB:∀ k w',Ans E c g T w0 (Up k) w'->Q (Up k) w')
  (hQ:∀ v rs u n' w',rs.length<=k->Hid (Sx E c n' g w0 (Rw E c w v rs u.1 [] []) T (K u n') w')->Q (.returned v) w') :
  Calls Tryz.prog 160 #[.pointer (some ⟨c,0,none⟩),.string ⟨(x::op).toArray⟩,.string ⟨(y::mark).toArray⟩,.string ⟨(z::shut).toArray⟩,.func (.func f) first cap] w Q:=by
 have hh:=h.out;have hr:rows E.toEnv (kA E.toEnv k) (x::op) (y::mark) (z::shut) o n g≠.out:=fun e=>hh.ne (by rw [hh.eq,e];rfl)
 refine (EO hh.rd k hk x y z op mark shut o f first cap he.cf [c] (fun i hi=>by simp at hi;subst hi;exact hh.rd.lt) Cm (fun wd _=>wd=-1) (fun _ _ _ h _ _=>h) rfl (fun j n1 word w1 hj hR hF hw hne=>?_) hr).mono ?_
 ·subst hw;rw [RR he.nc] at hne ⊢;have hne2:(kA E.toEnv j).t (.one o) n1 g≠.out:=fun e=>hne Ed
  refine (he.does j n1 w1 hj hR hF hne2).mono ?_;intro e w' hA;cases hc:(kA E.toEnv j).t (.one o) n1 g with
  | out=>exact absurd hc hne2
  | bad k2=>rw [hc] at hA;exact hA
  | ok t m=>rw [hc] at hA;obtain⟨p,a1,a2,a3,a4⟩:=hA;exact⟨p,a1,a2,a3,a4,rfl⟩
 ·intro e w' hA;cases hc:rows E.toEnv (kA E.toEnv k) (x::op) (y::mark) (z::shut) o n g with
  | out=>exact absurd hc hr
  | bad k2=>rw [hc] at hA hh;obtain⟨rfl,q1,q2⟩:=hA;exact hB k2 w' (hh.bad rfl q1 q2)
  | ok u m =>
   rw [hc] at hA hh;obtain⟨v,rs,rfl,q1,q2,q3,_,q4⟩:=hA;exact hQ v rs u m w' q4 ((hh.step q3 q1 rfl).with ⟨q3,hh.rd.lt,q2.1,q2.2,trivial,hh.rd.zlt.imp id (fun h e=>by have:=(q2.1.lt _ e).1;omega)⟩ Rw.later)
end
end
section
open Go.RowKit
section
variable {E:Ev}{S:AB}{c n:Nat}{g:Bool}{w0 w1:World}{P:World->Prop}{T X:R Tr}{w:World}{Q:Ending->World->Prop}
variable {p:Nat}{k:UInt8}{wd:Int}{f t:Nat}{kv v:Value}{ps0:List Nat}{ts0:List Tr}{ps:List Nat}{ts:List Tr}{rs:List Nat}{us:List Tr}
theorem mQ4 (h:Hid (Sx E c n g w0 P T X w)):w.cell? ⟨c,3,none⟩=some (.int .i64 (n:Int)):=h.out.rd.cells.2.2.2.1
theorem qQ4 (h:Hid (Sx E c n g w0 P T X w)):((n:Nat):Int)<=1099511627776:=by have:=h.out.rd.at_;have:=h.out.rd.lie.small;omega
theorem oQ4 (h:Hid (Sx E c n g w0 P T X w)):w.frozen? ⟨c,3,none⟩=false:=h.out.rd.free 3
theorem nQ4 (h:Hid (Sx E c n g w0 (Nd E c w1 p k wd f t kv ps0 ts0 ps ts) T X w)):w.cell? ⟨p,0,none⟩=some (.int .u8 (k.toNat:Int))/\w.cell? ⟨p,1,none⟩=some (.int .i64 wd)/\w.cell? ⟨p,2,none⟩=some (.int .i64 (f:Int))/\w.cell? ⟨p,4,none⟩=some kv/\w.frozen? ⟨p,0,none⟩=false/\w.frozen? ⟨p,1,none⟩=false:=by
  obtain⟨a,b,d,_,e⟩:=h.out.ex.opn.blk.cells;exact⟨a,b,d,e,h.out.ex.opn.blk.free 0,h.out.ex.opn.blk.free 1⟩
theorem bx {B:Nat}{x:Value} (h:Hid (Sx E c n g w0 P T X w)) (hX:Hid (w0.cell? ⟨B,0,none⟩=some x/\c < B)):w.cell? ⟨B,0,none⟩=some x:=h.out.fr.cell (a:=⟨B,0,none⟩) (by have:=hX.out.2;simp;omega) hX.out.1
theorem cQ4 {E:Env}{n:Nat}{ws:List UInt8}{b:Bool} (h:(E.word (n:Int)==ws)=b):E.is n ws=b:=h
theorem eQ4 {E:Env}{n:Nat}{ws:List UInt8}{b:Bool} (h:(E.word ((n:Int)+1)==ws)=b):E.is (n+1) ws=b:=cQ4 (by push_cast;exact h)
theorem dQ4 {E:Env}{n:Nat}{ws:List UInt8}{b:Bool} (h:(E.word ((n:Int)+2)==ws)=b):E.is (n+2) ws=b:=cQ4 (by push_cast;exact h)
theorem df_:(∀ i,@decide False i=false)/\(∀ i,@decide True i=true):=⟨fun _=>decide_eq_false id,fun _=>decide_eq_true trivial⟩
theorem ww {a b c:List UInt8} (h:(a==b)=true) (k:(a==c)=true) (e:(b==c)=false):False:=by
  rw [beq_iff_eq] at h k;subst h;subst k;simp at e
theorem bbf {b:Bool} (h:b=false) (k:b=true):False:=by rw [h] at k;cases k
theorem nt_ {b:Bool} (h:(!b)=true):b=false:=Dc
theorem nf_ {b:Bool} (h:(!b)=false):b=true:=Dc
theorem kQ4 {a b:List UInt8} (h:¬ a=b):(a==b)=false:=Dc
theorem pQ4 {a b:List UInt8} (h:a=b):(a==b)=true:=Dc
theorem WQ3 {K:Tr->Nat->R Tr}{F:F}{fn:FuncId} (h:Hid (Sx E c n g w0 (Nd E c w1 p k wd f t kv ps0 ts0 ps ts) T ((S.t F n g).andThen K) w)) (hD:Hid (aB E S))
    (hB:∀ k w',Ans E c g T w0 (Up k) w'->Q (Up k) w') (hfn:xD F=fn/\fn≠0) (hs:NF F=false/\okF F=true∨okF F=true/\n < E.l.length)
    (hQ:∀ q u n' w',Hid (Sx E c n' g w0 (Nd E c w1 p k wd f t kv ps0 ts0 (ps++[q]) (ts++[u])) T (K u n') w')->Q (.returned (.pointer (some ⟨q,0,none⟩))) w') :
    Calls Tryz.prog fn #[.pointer (some ⟨c,0,none⟩)] w Q:=by
  obtain⟨rfl,hf⟩:=hfn;exact TB h (hD.out.t F c n g w hf (hs.elim (fun hs=>DA hs.1 h.out.rd.at_ hs.2) fun hs=>SF hs.2 hs.1) h.out.rd) hB hQ
theorem iQ4 {F:F}{fn:FuncId} (h:Hid (Sx E c n g w0 P T (S.t F n g) w)) (hD:Hid (aB E S)) (hB:∀ k w',Ans E c g T w0 (Up k) w'->Q (Up k) w') (hfn:xD F=fn/\fn≠0) (hs:NF F=false/\okF F=true∨okF F=true/\n < E.l.length)
    (hQ:∀ q w',Hid (Ans E c g T w0 (.returned (.pointer (some ⟨q,0,none⟩))) w')->Q (.returned (.pointer (some ⟨q,0,none⟩))) w') :
    Calls Tryz.prog fn #[.pointer (some ⟨c,0,none⟩)] w Q:=by
  obtain⟨rfl,hf⟩:=hfn;exact pG h (hD.out.t F c n g w hf (hs.elim (fun hs=>DA hs.1 h.out.rd.at_ hs.2) fun hs=>SF hs.2 hs.1) h.out.rd) hB hQ
theorem jQ4 (h:Hid (Sx E c n g w0 P T X w)) (hlt:Hid (n < E.l.length)):∃ n' w',n'=n+1/\(n:Int)+1=(n':Int)/\w.setCell ⟨c,3,none⟩ (.int .i64 ((n:Int)+1))=w'/\w.heap.size=w'.heap.size/\Hid (Sx E c n' g w0 P T X w') :=
  ⟨_,_,rfl,by push_cast;rfl,rfl,Cm,ZA h hlt⟩
def Kd (k:UInt8) (K:Int):Prop:=(k.toNat:Int)=K
theorem gQ4 {k':UInt8}{K:Int} (h:Hid (Sx E c n g w0 P T X w)) (hK:Kd k' K) (hQ:∀ p w',Hid (Sx E c n g w0 (Nd E c w0 p k' (-1) n 0 OE [] [] [] []) T X w')->Q (.returned (.pointer (some ⟨p,0,none⟩))) w') :
    Calls Tryz.prog 106 #[.pointer (some ⟨c,0,none⟩),.int .u8 K] w Q:=by
  subst hK;exact yB h k' hQ
theorem UQ3 {k2:UInt8}{K:Int} (h:Hid (Sx E c n g w0 P T (.ok (vA k2 n) n) w)) (hK:(k2.toNat:Int)=K) (hQ:∀ q w',Hid (Ans E c g T w0 (.returned (.pointer (some ⟨q,0,none⟩))) w')->Q (.returned (.pointer (some ⟨q,0,none⟩))) w') :
    Calls Tryz.prog 153 #[.pointer (some ⟨c,0,none⟩),.int .u8 K] w Q:=by
  subst hK;exact jL h hQ
theorem ZQ3 {k':UInt8}{K:Int} (h:Hid (Sx E c n g w0 (Nd E c w1 p k wd f t kv ps0 ts0 ps ts) T X w)) (hK:Kd k' K) (h01:w0.heap.size<=w1.heap.size):∃ w',w.setCell ⟨p,0,none⟩ (.int .u8 K)=w'/\w.heap.size=w'.heap.size/\Hid (Sx E c n g w0 (Nd E c w1 p k' wd f t kv ps0 ts0 ps ts) T X w'):=by
  subst hK;exact⟨_,rfl,Cm,dB h k' h01⟩
theorem fQ4 (h:Hid (Sx E c n g w0 (Nd E c w1 p k wd f t kv ps0 ts0 ps ts) T X w)) (m:Nat) (h01:w0.heap.size<=w1.heap.size):∃ w',w.setCell ⟨p,1,none⟩ (.int .i64 (m:Int))=w'/\w.heap.size=w'.heap.size/\Hid (Sx E c n g w0 (Nd E c w1 p k m f t kv ps0 ts0 ps ts) T X w') :=
  ⟨_,rfl,Cm,oD h m h01⟩
theorem hQ4 {w2:World}{n2:Nat}{X2:R Tr}{k2:UInt8}{K:Int} (h2:Hid (Sx E c n2 g w0 (Nd E c w1 p k wd f t kv ps0 ts0 ps ts) T X2 w2)) {rs0:List Nat}{us0:List Tr} (h:Hid (Sx E c n g w0 (Rw E c w2 v rs us rs0 us0) T X w)) (hK:Kd k2 K) (hsm:rs.length<=1099511627776)
    (hQ:∀ q w',Hid (Sx E c n g w0 (Nd E c w1 p k wd f t kv ps0 ts0 (ps++[q]) (ts++[xC k2 us n])) T X w')->Q (.returned (.pointer (some ⟨q,0,none⟩))) w') :
    Calls Tryz.prog 111 #[.pointer (some ⟨c,0,none⟩),.int .u8 K,v] w Q:=by
  subst hK;exact VJ h2 h hsm hQ
theorem aQ4 {k2:UInt8}{K:Int} (h:Hid (Sx E c n g w0 (Rw E c w1 v ps ts rs us) T X w)) (hK:Kd k2 K) (hsm:ps.length<=1099511627776)
    (hQ:∀ q w',Hid (Sx E c n g w0 (Rw E c w1 OE [] [] [q] [xC k2 ts n]) T X w')->Q (.returned (.pointer (some ⟨q,0,none⟩))) w') :
    Calls Tryz.prog 111 #[.pointer (some ⟨c,0,none⟩),.int .u8 K,v] w Q:=by
  subst hK;exact LE h hsm hQ
theorem bQ4 {x:UInt8}{ws:List UInt8} (h:Hid (Sx E c n g w0 P T X w)) (h1:∀ n' w',n'=n+1->E.is n (x::ws)=true->Hid (Sx E c n' g w0 P T X w')->Q (.returned (.bool true)) w') (h2:∀ w',E.is n (x::ws)=false->Hid (Sx E c n g w0 P T X w')->Q (.returned (.bool false)) w') :
    Calls Tryz.prog 69 #[.pointer (some ⟨c,0,none⟩),.string ⟨(x::ws).toArray⟩] w Q:=by
  cases hd:E.is n (x::ws) with
  | true=>exact vE h hd fun n' w' e H=>h1 n' w' e hd H
  | false=>exact gH h hd fun w' H=>h2 w' hd H
inductive KU:List Value->List Tr->List Nat->List Tr->Prop
  | nil (ps:List Nat) (ts:List Tr):KU [] [] ps ts
  | take (p:Nat) (t:Tr) (vs:List Value) (us:List Tr) (ps:List Nat) (ts:List Tr) (h:KU vs us ps ts):KU (.pointer (some ⟨p,0,none⟩)::vs) (t::us) (p::ps) (t::ts)
  | skip (p:Nat) (t:Tr) (vs:List Value) (us:List Tr) (ps:List Nat) (ts:List Tr) (h:KU vs us ps ts):KU vs us (p::ps) (t::ts)
theorem KU.trees {vs:List Value}{us:List Tr}{ps:List Nat}{ts:List Tr} (h:KU vs us ps ts):∃ ps',vs=GB ps'/\∀ w D,fA w D ps ts->fA w D ps' us:=by
  induction h with
  | nil ps ts=>exact⟨[],rfl,fun _ _ _=>trivial⟩
  | take p t vs us ps ts h ih=>obtain⟨ps',e,hh⟩:=ih;exact⟨p::ps',Ed,fun w D k=>⟨k.1,hh w D k.2⟩⟩
  | skip p t vs us ps ts h ih=>obtain⟨ps',e,hh⟩:=ih;exact⟨ps',e,fun w D k=>hh w D k.2⟩
theorem VQ3 {A:Array Value}{m:Nat}{us:List Tr} (h:Hid (Sx E c n g w0 (Nd E c w0 p k wd f t kv ps0 ts0 ps ts) T (.ok (.mk k wd f n (ts0++us)) n) w)) (hA:KU A.toList us ps ts) (hm:A.size=m) (hsm:ps0.length+m<=1000000) :
    Calls Tryz.prog 113 #[.pointer (some ⟨c,0,none⟩),.pointer (some ⟨p,0,none⟩),.slice (some ⟨w.heap.size,0,none⟩) m m] (w.alloc (.cells A 51))
      fun e w'=>e=.returned (.pointer (some ⟨p,0,none⟩))/\Hid (Ans E c g T w0 (.returned (.pointer (some ⟨p,0,none⟩))) w'):=by
  obtain⟨ps',e,hh⟩:=hA.trees;have e2:A=(GB ps').toArray:=by rw [<- e]
  have e3:ps'.length=m:=by rw [<- hm,e2];simp [GB]
  rw [e2,<- e3];exact eA (gG h (fun D=>hh w D)) Cf
theorem XQ3 {q:Nat}{u:Tr} (h:Hid (Sx E c n g w0 (Nd E c w1 p k wd f t kv ps0 ts0 ps ts) T (.ok u n) w)) (hA:KU [.pointer (some ⟨q,0,none⟩)] [u] ps ts) (h01:w0.heap.size<=w1.heap.size):Ans E c g T w0 (.returned (.pointer (some ⟨q,0,none⟩))) w:=by
  obtain⟨ps',e,hh⟩:=hA.trees
  match ps',e with
  | [q'],e=>simp [GB] at e;subst e;exact IV (ps:=[]) (ts:=[]) (gG h (fun D=>hh w D)) h01
  | [],e=>simp [GB] at e
  | _::_::_,e=>simp [GB] at e
theorem YQ3 {q:Nat}{u:Tr} (h:Hid (Sx E c n g w0 (Rw E c w1 v ps ts rs us) T (.ok u n) w)) (hA:KU [.pointer (some ⟨q,0,none⟩)] [u] rs us) (h01:w0.heap.size<=w1.heap.size):Ans E c g T w0 (.returned (.pointer (some ⟨q,0,none⟩))) w:=by
  obtain⟨ps',e,hh⟩:=hA.trees
  match ps',e with
  | [q'],e=>simp [GB] at e;subst e;exact RE (rs:=[]) (us:=[]) (ZY h (fun D=>hh w D)) h01
  | [],e=>simp [GB] at e
  | _::_::_,e=>simp [GB] at e
end
theorem sb {P:Prop} (hh:P:=by
  (try simp only [Ao,Al])
  repeat' first
    | exact KU.nil _ _
    | apply KU.take
    | apply KU.skip):P:=hh
theorem le_ {P:Prop} (hh:P:=by
  first
  | exact C' _
  | exact HO.out.fr.size
  | omega):P:=hh
theorem up {P:Prop} (hh:P:=by
  first
  | exact fun _ _ h=>⟨rfl,h⟩
  | exact fun _ _ h=>⟨rfl,h.behind HFB.out⟩
  | exact fun _ _ h=>⟨rfl,fun _ hq=>Hd,h⟩):P:=hh
theorem dn {P:Prop} (hh:P:=by
  go_wp2_with fail;go_ret
  first
  | exact HA.out
  | exact HA.out.behind HFB.out
  | exact fE.mk HA.out):P:=hh
theorem isc {f:FuncId}{a:Array Value}{w:World}{Q:Ending->World->Prop} (h:Calls Tryz.prog f a w Q):Calls Tryz.prog f a w Q:=h
theorem isk (K:Int) {f:FuncId}{a:Value}{w:World}{Q:Ending->World->Prop} (h:Calls Tryz.prog f #[a,.int .u8 K] w Q):Calls Tryz.prog f #[a,.int .u8 K] w Q:=h
theorem sf {P:Prop} (hh:P:=by first|exact .inl ⟨rfl,rfl⟩|exact .inr ⟨rfl,L.out⟩|exact .inr ⟨rfl,HLT.out⟩):P:=hh
theorem isa {E:Ev}{c n:Nat}{g:Bool}{w0:World}{P:World->Prop}{T:R Tr}{α:Type}{r:R α}{K:α->Nat->R Tr}{w:World} (h:Hid (Sx E c n g w0 P T (r.andThen K) w)):Hid (Sx E c n g w0 P T (r.andThen K) w):=h
theorem lQ4 {E:Ev}{S:AB}{c n:Nat}{g g2:Bool}{w0:World}{P:World->Prop}{T:R Tr}{F:F}{K:Tr->Nat->R Tr}{w:World} (h:Hid (Sx E c n g w0 P T ((S.t F n g2).andThen K) w)):Hid (Sx E c n g w0 P T ((S.t F n g2).andThen K) w):=h
theorem ist {E:Ev}{S:AB}{c n:Nat}{g:Bool}{w0:World}{P:World->Prop}{T:R Tr}{F:F}{w:World} (h:Hid (Sx E c n g w0 P T (S.t F n g) w)):Hid (Sx E c n g w0 P T (S.t F n g) w):=h
theorem isb {E:Ev}{c n:Nat}{g:Bool}{w0:World}{P:World->Prop}{a b:Bool}{w:World} (h:Hid (Sx E c n g w0 P (bR a) (bR b) w)):Hid (Sx E c n g w0 P (bR a) (bR b) w):=h
theorem isn {E:Ev}{c n:Nat}{g:Bool}{w0 w1:World}{p:Nat}{k:UInt8}{wd:Int}{f t:Nat}{kv:Value}{ps0:List Nat}{ts0:List Tr}{ps:List Nat}{ts:List Tr}{T X:R Tr}{w:World} (h:Hid (Sx E c n g w0 (Nd E c w1 p k wd f t kv ps0 ts0 ps ts) T X w)):Hid (Sx E c n g w0 (Nd E c w1 p k wd f t kv ps0 ts0 ps ts) T X w):=h
theorem isw {E:Ev}{c n:Nat}{g:Bool}{w0 w1:World}{v:Value}{ps:List Nat}{ts:List Tr}{rs:List Nat}{us:List Tr}{T X:R Tr}{w:World} (h:Hid (Sx E c n g w0 (Rw E c w1 v ps ts rs us) T X w)):Hid (Sx E c n g w0 (Rw E c w1 v ps ts rs us) T X w):=h
theorem iso {E:Ev}{c n:Nat}{g:Bool}{w0:World}{P:World->Prop}{T:R Tr}{u:Tr}{w:World} (h:Hid (Sx E c n g w0 P T (.ok u n) w)):Hid (Sx E c n g w0 P T (.ok u n) w):=h
theorem dc {P:Prop} (hh:P:=by
  first
  | (obtain⟨n,w,hm,hc,hw,hs,H⟩:=jQ4 H (hid (by have:=L.out;omega));rw [hw];(try rw [hs]);(try simp only [hc]);(try simp only [hc] at H);(try simp only [<- hm] at H);have HM:=hid hm;clear hm hc hw hs;exact dc)
  | (obtain⟨w,hw,hs,H⟩:=ZQ3 H K1 le_;rw [hw];(try rw [hs]);clear hw hs;exact dc)
  | (obtain⟨w,hw,hs,H⟩:=ZQ3 H K2 le_;rw [hw];(try rw [hs]);clear hw hs;exact dc)
  | (obtain⟨w,hw,hs,H⟩:=fQ4 H n le_;rw [hw];(try rw [hs]);clear hw hs;exact dc)
  | (with_reducible refine isc ?_
     first
     | (go_at_call 109;refine cA H ?_;intro w H;exact dr)
     | (go_at_call 107;(with_reducible have H:=isa H);refine FA H up ?_;intro n w H;exact dr)
     | (go_at_call 107;refine IJ H Y ?_;intro n w hm H;(try simp only [<- hm] at H);have HM:=hid hm;clear hm;exact dr)
     | (go_at_call 106;refine gQ4 H KO ?_;intro p w H;exact dr)
     | (go_at_call 153;(with_reducible have H:=iso H);refine UQ3 H rfl ?_;intro q w HA;exact dn)
     | (go_at_call 153;(first|((with_reducible refine isk 0 ?_);refine IA H 0 ?_)|((with_reducible refine isk 11 ?_);refine IA H 11 ?_)|((with_reducible refine isk 49 ?_);refine IA H 49 ?_));intro q w H;exact dr)
     | (go_at_call 113;(with_reducible have H:=isn H);refine Calls.mono (VQ3 H ?_ ?_ ?_) ?_;exact sb;rfl;simp;rintro e w ⟨rfl,HA⟩;exact dn)
     | (go_at_call 113;(with_reducible have H:=isw H);refine (NG HO H Cv).mono ?_;rintro e w ⟨rfl,HA⟩;exact dn)
     | (go_at_call 160;have HO:=H;refine xG H hkk (by first|exact El.meth HA.out _ Ch Cm (Ci)|exact EL.out) up ?_;intro v rs u n w hl H;have HL:=hid (Ak hl hkk);clear hl;exact dr)
     | (go_at_call 111;(with_reducible have HO:=isn HO);refine hQ4 HO H KL Ix ?_;intro q w H;exact dr)
     | (go_at_call 111;refine aQ4 H KL Ix ?_;intro q w H;exact dr)
     | (go_at_call 70;refine AD H _ rfl ?_;intro w H;exact dr)
     | (go_at_call 143;refine RB H _ _ rfl ?_;intro w H;exact dr)
     | (go_at_call 29;refine OA H _ ?_;intro w H;exact dr)
     | (go_at_call 208;refine QY H _ _ rfl ?_;intro w H;exact dr)
     | (go_at_call 69;refine bQ4 H ?_ ?_;(intro n w hm hd H;(try simp only [hd,bs,df_,reduceCtorEq] at H);(try simp only [<- hm] at H);have HM:=hid hm;clear hm;exact dr);(intro w hd H;(try simp only [hd,bs,df_,reduceCtorEq] at H);exact dr))
     | (go_at_call 71;exact rG H up)
     | (go_at_call 188;refine kB H (fI H.out.rd) ?_;intro w H;exact dr)
     | (go_at_call 192;refine kB H (jK H.out.rd) ?_;intro w H;exact dr)
     | (go_at_call 229;refine kB H (ZO H.out.rd) ?_;intro w H;exact dr)
     | (go_at_call 242;refine kB H (vJ H.out.rd _) ?_;intro w H;exact dr)
     | (go_at_call 210;refine kB H (bH H.out.rd _) ?_;intro w H;exact dr)
     | ((with_reducible have H:=isa H)
        first
        | (go_at_call 108;refine lG H up ?_;intro q t n w H;exact dr)
        | (go_at_call 248;refine DL H (fun hr=>SE H.out.rd HD.out _ Ch ⟨rfl,rfl⟩ Ci hr) up ?_;intro q t n w HE H;have HS:=hid (HSO.out.t _ _ true (by trivial) _ _ HE.out);clear HE;exact dr)
        | (go_at_call 249;refine WL H (by first|exact H.out.ex.kids.1|exact H.out.ex.kids.2.1|exact H.out.ex.kids.2.2.1) HS up ?_;intro q t n w H;exact dr)
        | (go_at_call 248;refine TB H (fun hr=>SE H.out.rd HD.out _ Ch ⟨rfl,rfl⟩ Ci hr) up ?_;intro q t n w H;exact dr)
        | (go_at_call 102;refine TB H (fun hr=>PK H.out.rd HD.out _ Ch ⟨rfl,rfl⟩ Ci hr) up ?_;intro q t n w H;exact dr)
        | (go_at_call 250;refine TB H (fun hr=>HD.out.clauses _ _ c _ g _ Cm H.out.rd hr) up ?_;intro q t n w H;exact dr)
        | (go_at_call 191;refine kW H up ?_;intro q t n w H;exact dr)
        | ((with_reducible have H:=lQ4 H);refine WQ3 H HD up ⟨rfl,Ch⟩ sf ?_;intro q t n w H;exact dr)
        | (refine TB H (C1 HD.out H.out.rd) up ?_;intro q t n w H;exact dr)
        | (refine TB H (C2 HD.out H.out.rd) up ?_;intro q t n w H;exact dr))
     | (go_at_call 108;refine pG H (fun _=>yJ H.out.rd) up ?_;intro q w HA;exact dn)
     | (go_at_call 155;refine pG H (fun _=>IL H.out.rd 27 true (fun _=>UX h16_)) up ?_;intro q w HA;exact dn)
     | (go_at_call 227;refine cE H (fun hr=>(HD.out.rest _ _ _ _ _ _ _ _ _ _ H.out.rd H.out.ex hr).mono (fun _ _ h=>h.2)) up ?_;intro q w HA;exact dn)
     | (go_at_call 191;refine pG H (fun _=>FN H.out.rd) up ?_;intro q w HA;exact dn)
     | ((with_reducible have H:=ist H);refine iQ4 H HD up ⟨rfl,Ch⟩ sf ?_;intro q w HA;exact dn)
     | (refine pG H (C1 HD.out H.out.rd) up ?_;intro q w HA;exact dn))
  | (have hb0_:=bx H HX
     have H:=yC H;have hb1_:=bx H HX
     go_region_held (fun w'=>w'.cell? ⟨B,0,none⟩=some (.pointer (some ⟨c,0,none⟩))) (first|(first|assumption|exact aA ((J' _ _).alloc (C' _) _) ‹_›)) (first|(go_at_call 153;refine IA H 0 ?_;intro q w H;have hb2_:=bx H HX)|(go_at_call 113;(with_reducible have H:=isn H);refine Calls.mono (VQ3 H ?_ ?_ ?_) ?_;exact sb;rfl;simp;rintro e w ⟨rfl,HA⟩;have hb2_:=(Ans.fr HA.out).cell (a:=⟨B,0,none⟩) Cg HX.out.1)|((with_reducible have H:=lQ4 H);refine WQ3 H HD up ⟨rfl,Ch⟩ sf ?_;intro q t n w H;have hb2_:=bx H HX))
     first|exact dn|exact dr)
  | (go_ret;first|((with_reducible have H:=isb H);exact gC H)|((with_reducible have H:=isn H);first|exact XQ3 H sb le_|exact (XQ3 H sb le_).behind HFB.out|exact fE.mk (XQ3 H sb le_))|((with_reducible have H:=isw H);first|exact YQ3 H sb le_|exact (YQ3 H sb le_).behind HFB.out))
 ):P:=hh
theorem dr {P:Prop} (hh:P:=by
  have hat_:=mQ4 H;have hsm_:=qQ4 H;have hfz_:=oQ4 H
  try obtain⟨hk0_,hk1_,hk2_,hk4_,hf0_,hf1_⟩:=nQ4 H
  try have hb_:=bx H HX
  go_wp2_with fail
  all_goals
    clear hat_ hsm_ hfz_
    try clear hk0_ hk1_ hk2_ hk4_ hf0_ hf1_
    try clear hb_
    try ((with_reducible rename _/\_=>h1_);obtain⟨_,_⟩:=h1_)
    try ((with_reducible rename _∨_=>h2_);cases h2_)
  all_goals
    repeat (with_reducible rename ¬(_=true)=>h3_;replace h3_:=eq_false_of_ne_true h3_)
    try (rename (!_)=true=>h4_;replace h4_:=nt_ h4_)
    try (rename (!_)=false=>h5_;replace h5_:=nf_ h5_)
    repeat (rename ¬(Env.word _ _=_)=>h6_;replace h6_:=kQ4 h6_)
    repeat (rename (Env.word _ _=_)->False=>h7_;replace h7_:=kQ4 h7_)
    try (with_reducible rename Env.word _ _=_=>h8_;replace h8_:=pQ4 h8_)
    try (rename (Env.word _ _==_)=false=>h9_;exact (bbf h9_ ‹_›).elim)
    try (rename (Env.word _ _==_)=true=>h10_;exact (bbf ‹_› h10_).elim)
    try (rename (Env.word _ _==_)=true=>h21_;revert h21_;rename (Env.word _ _==_)=true=>h22_;intro h21_;exact (ww h21_ h22_ rfl).elim)
    repeat (rename (Env.word _ _==_)=false=>h11_;(with_reducible first|have hd:=cQ4 h11_|have hd:=eQ4 h11_|have hd:=dQ4 h11_|have hd:=h11_);(try simp only [hd,bs,df_,reduceCtorEq] at H);clear hd;revert h11_)
    try intros
    try (rename (Env.word _ _==_)=true=>h12_;(with_reducible first|have hd:=cQ4 h12_|have hd:=eQ4 h12_|have hd:=dQ4 h12_|have hd:=h12_);(try simp only [hd,bs,df_,reduceCtorEq] at H);(try (have L:=hid (gA hd);have Y:=hid hd));clear hd)
    try (with_reducible rename Env.named _ _=_=>h13_;simp only [h13_,bs,df_,reduceCtorEq] at H)
    try (with_reducible rename Env.ended _ _=_=>h14_;simp only [h14_,bs,df_,reduceCtorEq] at H)
    try (with_reducible rename Env.quoted _ _=_=>h15_;simp only [h15_,bs,df_,reduceCtorEq] at H)
    try (with_reducible rename Env.literal _ _=_=>h16_;simp only [h16_,bs,df_,reduceCtorEq] at H)
    try (with_reducible rename quiet _ _=_=>h17_;simp only [h17_,bs,df_,reduceCtorEq] at H)
    try (with_reducible rename generic _ _=_=>h18_;simp only [h18_,bs,df_,reduceCtorEq] at H)
    try (with_reducible rename Prod.snd _=_=>h20_;simp only [h20_,bs,df_,reduceCtorEq] at H)
    try (with_reducible rename bare _ _=_=>h19_;simp only [h19_,bs,df_,reduceCtorEq] at H)
  all_goals exact dc):P:=hh
end
