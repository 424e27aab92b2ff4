import Derived.Test.YtfmpphplbdojbaaGreatDoorQAH
namespace Go.Proofs.YtfmpphplbdojbaaGreatDoor
open Lib(hid)
set_option linter.all false
set_option maxHeartbeats 40000000
set_option maxRecDepth 100000
section
open Go.RowKit
def tX (E:Ev) (c:Nat) (g:Bool) (k:Nat) (X:List Nat) (St:Int→World→Prop) (r:R (List Tr × Int)) (w:World) (e:Ending) (w':World):Prop :=
 match r with
 | .ok p n=>∃ v ps,e=.returned v∧Rd E c n g w'∧Row w v ps p.1 w'∧Fr X w w'∧St p.2 w'∧ps.length≤k
 | .bad k=>e=Up k∧(∃ g',Rd E c k g' w')∧Fr X w w'
 | .out=>False
def mV (E:Ev) (c:Nat) (g:Bool) (X:List Nat) (St:Int→World→Prop) (r:R (Tr × Int)) (w:World) (e:Ending) (w':World):Prop :=
 match r with
 | .ok u n=>∃ p,e=.returned (.pointer (some ⟨p,0,none⟩))∧Rd E c n g w'∧EA w' w.heap.size w'.heap.size p u.1∧Fr X w w'∧St u.2 w'
 | .bad k=>e=Up k∧(∃ g',Rd E c k g' w')∧Fr X w w'
 | .out=>False
def zM (E:Env) (S:AB) (o:One) (word:Int) (n:Nat) (g:Bool):R (Tr × Int):=match o with
 | .call=>if 0≤word then .bad n else (S.t .expr n g).andThen fun x n1=>if E.is n1 [46,46,46] then .ok (x,(n1:Int)) (n1+1) else .ok (x,word) n1
 | o=>(S.t (.one o) n g).andThen fun x n1=>.ok (x,word) n1
def vV:Value→Nat|.slice _ n _=>n|_=>0
def bW (E:Ev) (c:Nat) (g:Bool) (k:Nat) (X:List Nat) (St:Int→World→Prop) (mark shut:List UInt8) (o:One) (r:R (List Tr × Int)) (w0:World) (v:Value) (w':World):Prop :=
 ∃ (j n:Nat) (acc:List Tr) (ps:List Nat) (word:Int),j≤k∧Rd E c n g w'∧Row w0 v ps acc w'∧Fr X w0 w'∧St word w'∧(kA E.toEnv j).l mark shut o acc word n g=r∧ps.length+j≤k
theorem xV {E:Env}{S:AB}{mark shut:List UInt8}{o:One} (acc:List Tr) (word:Int) (n:Nat) (g:Bool) (hn:E.is n shut=false) :
  LF E S mark shut o acc word n g=(zM E S o word n g).andThen fun p n1=>if E.is n1 shut then S.l mark shut o (acc++[p.1]) p.2 n1 g else (want E mark n1).andThen fun _ n2=>S.l mark shut o (acc++[p.1]) p.2 n2 g:=by
 unfold LF zM;rw [if_neg (by rw [hn];decide)]
 rfl
theorem EO {E:Ev}{c n:Nat}{g:Bool}{w:World} (h:Rd E c n g w) (k:Nat) (hk:k≤1099511627776) (x y z:UInt8) (op mark shut:List UInt8) (o:One) (f:FuncId) (first cap:Array Value)
  (hcf:∀ w1,Sem.run Tryz.prog (callFunc f (first++cap)) w1=.ok (.enter f (first++cap)) w1) (X:List Nat) (hX:∀ i∈X,i < w.heap.size) (hcX:c∈X) (St:Int→World→Prop)
  (hSt:∀ wd a b,St wd a→w.heap.size≤a.heap.size→(∀ i,i < w.heap.size→i≠c→b.heap[i]?=a.heap[i]?)→St wd b) (hS0:St (-1) w)
  (HO:∀ j n1 word w1,j < k→Rd E c n1 g w1→Fr X w w1→St word w1→zM E.toEnv (kA E.toEnv j) o word n1 g≠.out→Calls Tryz.prog f (first++cap) w1 (mV E c g X St (zM E.toEnv (kA E.toEnv j) o word n1 g) w1))
  (hr:rows E.toEnv (kA E.toEnv k) (x::op) (y::mark) (z::shut) o n g≠.out) :
  Calls Tryz.prog 160 #[.pointer (some ⟨c,0,none⟩),.string ⟨(x::op).toArray⟩,.string ⟨(y::mark).toArray⟩,.string ⟨(z::shut).toArray⟩,.func (.func f) first cap] w
   (tX E c g k X St (rows E.toEnv (kA E.toEnv k) (x::op) (y::mark) (z::shut) o n g) w):=by
 obtain⟨iP,hiP,hz0,hz1,hz2⟩:=info_parts Tryz.infoP;have hcw:=h.lt;have HZL:=hid h.zlt;have HW:=hid (NH h x op);have HOh:=hid HO;have hb4:∀ wd (a b:World),St wd a→w.heap.size≤a.heap.size→Below a.heap.size a b→St wd b:=fun wd a b s z hb=>hSt wd a b s z (fun i hi _=>hb.block i (by omega))
 have hf4:∀ wd (a b:World),St wd a→w.heap.size≤a.heap.size→Fr [c] a b→St wd b:=fun wd a b s z hb=>hSt wd a b s z (fun i hi hne=>hb.block i (by omega) (by simpa using hne))
 have hw4:∀ a b:World,Fr [c] a b→Fr X a b:=fun a b hb=>hb.weaken (fun i _ hi=>by simp at hi;rw [hi];exact hcX)
 have HP:=hid (And.intro hX (And.intro hSt (And.intro hb4 (And.intro hf4 (And.intro hw4 hS0)))));unfold rows at hr ⊢;clear HO h hX hSt hb4 hf4 hw4 hS0;go_enter Tryz.func160,Tryz.ntmps160;go_wp2_with fail;refine HW.out.mono ?_;rintro e w1 hD;clear HW;generalize hw:want E.toEnv (x::op) n=rw0 at *;cases rw0 with
 | out=>exact hD.elim
 | bad k2 =>
  obtain⟨rfl,q1,q2⟩:=hD;exact⟨rfl,by rw [hw];exact⟨rfl,q1,HP.out.2.2.2.2.1 _ _ q2⟩⟩
 | ok u n1 =>
  obtain⟨rfl,hR1,hF1⟩:=hD;have hfin:(want E.toEnv (x::op) n).andThen (fun _ n1=>(kA E.toEnv k).l (y::mark) (z::shut) o [] (-1) n1 g)=(kA E.toEnv k).l (y::mark) (z::shut) o [] (-1) n1 g:=by rw [hw];rfl
  have HFin:=hid hfin;simp only [R.andThen] at hr;clear hfin;generalize hrr:(kA E.toEnv k).l (y::mark) (z::shut) o [] (-1) n1 g=r at *;have hST:bW E c g k X St (y::mark) (z::shut) o r w (.slice none 0 0) w1:=⟨k,n1,[],[],-1,Nat.le_refl _,hR1,⟨World.ownsRow_nil _ _ _ _,trivial⟩,HP.out.2.2.2.2.1 _ _ hF1,HP.out.2.2.2.1 _ _ _ HP.out.2.2.2.2.2 (Nat.le_refl _) hF1,hrr,by simp⟩;have HST:=hid hST;have Hr:=hid hr;have HRR:=hid hrr;clear hST hR1 hF1 hrr hr hw;go_wp2_with fail
  go_loopw [11] (fun u11 w'=>bW E c g k X St (y::mark) (z::shut) o r w u11 w') (fun u11 _=>k - vV u11)
  case atStart=>exact HST.out
  case round =>
   clear HST;obtain⟨j,m,acc,ps,wd,hjk,hR,hRow,hF,hS,hl,hps⟩:=hrel;cases j with
   | zero=>exact absurd hl.symm Hr.out
   | succ j =>
    obtain⟨va,vc,rfl⟩:=xB hRow.1;have hl:LF E.toEnv (kA E.toEnv j) (y::mark) (z::shut) o acc wd m g=r:=hl;have HN:=hid (pE hR);have HR:=hid (And.intro hR (And.intro hRow (And.intro hF hS)));cases hz:E.is m (z::shut) with
    | true =>
     have hd:(E.word m==z::shut)=true:=hz;have hres:r=.ok (acc,wd) m:=by rw [← hl];unfold LF;rw [if_pos hz]
     have HRes:=hid hres;have hpk:ps.length≤k:=by omega
     clear hl hz hres hR hRow hF hS;go_wp2_with fail;refine HN.out.mono ?_;rintro e w2 ⟨rfl,hb⟩;go_wp2_with fail;go_ret;obtain⟨hR,hRow,hF,hS⟩:=HR.out;rw [HFin.out,HRes.out];exact⟨_,ps,rfl,hR.below hb,hRow.later (lA c hb) hcw hF.size,hF.trans (Fr.below hb),HP.out.2.2.1 _ _ _ hS hF.size hb,hpk⟩
    | false =>
     have hd:(E.word m==z::shut)=false:=hz;have hl2:=hl;rw [xV acc wd m g hz] at hl2;generalize hre:zM E.toEnv (kA E.toEnv j) o wd m g=re at hl2;have hne:re≠.out:=fun e=>by rw [e] at hl2;exact Hr.out hl2.symm
     have HL:=hid hl2;have HE:=hid hre;have hjk':j < k:=by omega
     have hpl:ps.length+1≤k:=by omega
     have HNE:=hid hne;clear hl hl2 hz hre hR hRow hF hne hS;go_wp2_with fail;refine HN.out.mono ?_;rintro e w2 ⟨rfl,hb⟩;have hR2:=HR.out.1.below hb;have hRow2:=HR.out.2.1.later (lA c hb) hcw HR.out.2.2.1.size;have hF2:=HR.out.2.2.1.trans (Fr.below hb);have hS2:=HP.out.2.2.1 _ _ _ HR.out.2.2.2 HR.out.2.2.1.size hb;have HC:=hid (HOh.out j m wd w2 hjk' hR2 hF2 hS2 (by rw [HE.out];exact HNE.out));have H2:=hid (And.intro hR2 (And.intro hRow2 hF2));clear hR2 hRow2 hF2 hS2;go_wp2_with fail;refine HC.out.mono ?_;rintro e w3 hA;rw [HE.out] at hA;clear HC HN HR hb;cases re with
     | out=>exact hA.elim
     | bad k2 =>
      obtain⟨rfl,q1,q2⟩:=hA;refine⟨rfl,?_⟩;rw [HFin.out,← HL.out];exact⟨rfl,q1,H2.out.2.2.trans q2⟩
     | ok t m1 =>
      obtain⟨p,rfl,q1,q2,q3,q4⟩:=hA;obtain⟨_,hRow2,hF2⟩:=H2.out;have hRow3:=hRow2.laterX q3 HP.out.1;have hF3:=hF2.trans q3;have hsz2:=hF2.size;have hsz3:=hF3.size;have hrow:=hRow3.1;have hB:=(Below.refl w3.heap.size w3).alloc (Nat.le_refl _) (Obj.cells #[.pointer (some ⟨p,0,none⟩)] 51);have hvlt:∀ b,(Value.slice va ps.length vc).ownBlock=some b→w.heap.size≤b∧b < w2.heap.size:=fun b hb=>hRow2.1.lt b hb
      have HQ:=hid (And.intro q1 (And.intro q2 (And.intro hRow3 (And.intro hF3 (And.intro hvlt q4)))));clear q1 q2 q3 q4 hRow2 hF2 hRow3 hF3 H2;have hbz:w.heap.size≤(w3.alloc (Obj.cells #[.pointer (some ⟨p,0,none⟩)] 51)).heap.size:=by simp;omega
      go_wp2_with (at_builtin;refine wpList_append_own_at _ rfl _ _ 59 rfl w.heap.size 51 iP _ 1 8 Tryz.underlying59 hiP hz0 hz1 hz2 rfl (by decide) _ _ _ rfl (hrow.alloc _) ⟨w3.heap.size,0,none⟩ 1 1 (GB [p]) rfl rfl (World.news_of_block (cs:=#[.pointer (some ⟨p,0,none⟩)]) (t:=51) (fr:=(0,0)) (heap_alloc_new w3 _)) (zG _) (by unfold maxLen;omega) (by omega) hbz ?_);intro v1 w5 hown hgrow _ hat;obtain⟨v5,c5,rfl⟩:=xB hown;obtain⟨q1,q2,hRow3,hF3,hvlt,q4⟩:=HQ.out;have hg5:=hgrow.size;have ha5:w3.heap.size+1=(w3.alloc (Obj.cells #[.pointer (some ⟨p,0,none⟩)] 51)).heap.size:=by simp
      have hRow5:Row w (.slice v5 (ps.length+1) c5) (ps++[p]) (acc++[t.1]) w5 :=
       Row.more hRow3 q2 hsz2 (fun b hb=>(hvlt b hb).2) hown (fun b hb hne=>by rw [hgrow.block b (by omega) (fun e=>hne e.symm)];exact hB.block b hb) (by omega)
        (hat.imp id (fun e=>⟨_,e,by omega⟩))
      have hX:Fr (YD (.slice va ps.length vc)) (w3.alloc (Obj.cells #[.pointer (some ⟨p,0,none⟩)] 51)) w5:=Fr.grown hgrow (fun k hk=>by simp [YD,hk]);have hXm:∀ i∈YD (.slice va ps.length vc),w.heap.size≤i:=by
       intro i hi;unfold YD at hi;split at hi
       ·rename_i b2 hb2;simp at hi;subst hi;exact (hvlt _ hb2).1
       ·simp at hi
      have hF5:Fr X w w5:=(hF3.trans (Fr.below hB)).trans' hX (fun i hi=>.inr (hXm i hi));have hS5:St t.2 w5:=by
       have s1:=HP.out.2.2.1 _ _ _ q4 hsz3 hB;exact HP.out.2.1 _ _ _ s1 (by omega) (fun i hi _=>hX.block i (by omega) (fun m=>by have:=hXm i m;omega))
      have hR5:=(q1.below hB).later hX (fun i hi=>by have:=hXm i hi;omega) (HZL.out.imp id (fun h m=>by have:=hXm _ m;omega));have HN5:=hid (pE hR5);have H5:=hid (And.intro hR5 (And.intro hRow5 (And.intro hF5 hS5)));clear hRow5 hX hXm hF5 hR5 q1 q2 hRow3 hF3 hvlt hS5 q4 hown hgrow hat hrow hB hbz HQ;cases hz5:E.is m1 (z::shut) with
      | true =>
       have hd5:(E.word m1==z::shut)=true:=hz5;have hL5:(kA E.toEnv j).l (y::mark) (z::shut) o (acc++[t.1]) t.2 m1 g=r:=by
        have:=HL.out;simp only [R.andThen] at this;rw [if_pos hz5] at this;exact this
       have HL5:=hid hL5;clear hL5 hz5;go_wp2_with fail;refine HN5.out.mono ?_;rintro e w6 ⟨rfl,hb⟩;go_wp2_with fail;go_roundw
       case rel =>
        obtain⟨hR5,hRow5,hF5,hS5⟩:=H5.out;exact⟨j,m1,acc++[t.1],ps++[p],t.2,by omega,hR5.below hb,hRow5.later (lA c hb) hcw hF5.size,hF5.trans (Fr.below hb),HP.out.2.2.1 _ _ _ hS5 hF5.size hb,HL5.out,by simp;omega⟩
       case measure=>simp only [vV];omega
      | false =>
       have hd5:(E.word m1==z::shut)=false:=hz5;have hL5:((want E.toEnv (y::mark) m1).andThen fun _ n2=>(kA E.toEnv j).l (y::mark) (z::shut) o (acc++[t.1]) t.2 n2 g)=r:=by
        have:=HL.out;simp only [R.andThen] at this;rw [if_neg (by rw [hz5];decide)] at this;exact this
       have HL5:=hid hL5;clear hL5 hz5;go_wp2_with fail;refine HN5.out.mono ?_;rintro e w6 ⟨rfl,hb⟩;obtain⟨hR5,hRow5,hF5,hS5⟩:=H5.out;have HW6:=hid (NH (hR5.below hb) y mark);have H6:=hid (And.intro (hRow5.later (lA c hb) hcw hF5.size) (And.intro (hF5.trans (Fr.below hb)) (HP.out.2.2.1 _ _ _ hS5 hF5.size hb)));clear hR5 hRow5 hF5 hS5 H5 HN5 hb;generalize hw6:want E.toEnv (y::mark) m1=rw6 at HW6 HL5;go_wp2_with fail;refine HW6.out.mono ?_;rintro e w7 hD;clear HW6;cases rw6 with
       | out=>exact hD.elim
       | bad k2 =>
        obtain⟨rfl,q1,q2⟩:=hD;refine⟨rfl,?_⟩;rw [HFin.out,← HL5.out];exact⟨rfl,q1,H6.out.2.1.trans (HP.out.2.2.2.2.1 _ _ q2)⟩
       | ok u n7 =>
        obtain⟨rfl,hR7,hF7⟩:=hD;clear hw6;go_wp2_with fail;go_roundw
        case rel=>exact⟨j,n7,acc++[t.1],ps++[p],t.2,by omega,hR7,H6.out.1.later hF7 hcw H6.out.2.1.size,H6.out.2.1.trans (HP.out.2.2.2.2.1 _ _ hF7),HP.out.2.2.2.1 _ _ _ H6.out.2.2 H6.out.2.1.size hF7,HL5.out,by simp;omega⟩
        case measure=>simp only [vV];omega
end
section
open Go.RowKit
def bR (b:Bool):R Tr:=.bad b.toNat
theorem DY {a b:Bool} (h:bR a=bR b):a=b:=by
 cases a <;> cases b <;> simp [bR] at h ⊢
theorem QL {b:Bool}:bR b≠.out:=by unfold bR;intro h;cases h
def xF (E:Ev) (c n:Nat) (g:Bool) (v:Value) (w:World) (e:Ending) (w':World):Prop:=e=.returned v∧Rd E c n g w'∧Fr [c] w w'
section
variable {E:Ev}{S:AB}{c n:Nat}{g:Bool}{w0:World}{P:World→Prop}{T X:R Tr}{w:World}{Q:Ending→World→Prop}
theorem kB {fn:FuncId}{args:Array Value}{v:Value} (h:Hid (Sx E c n g w0 P T X w)) (hC:Calls Tryz.prog fn args w (xF E c n g v w)) (hQ:∀ w',Hid (Sx E c n g w0 P T X w')→Q (.returned v) w'):Calls Tryz.prog fn args w Q:=by
 refine hC.mono ?_;rintro e w' ⟨rfl,q1,q2⟩;exact hQ w' (h.out.step q2 q1 rfl)
theorem gC {b1 b2:Bool} (h:Hid (Sx E c n g w0 P (bR b1) (bR b2) w)):xF E c n g (.bool b1) w0 (.returned (.bool b2)) w:=⟨by rw [DY h.out.eq],h.out.rd,h.out.fr⟩
end
section
variable {E:Ev}{S:AB}{c n:Nat}{g:Bool}{w:World}
theorem cG (h:Rd E c n g w) (i:Int):Calls Tryz.prog 208 #[.pointer (some ⟨c,0,none⟩),.int .i64 i] w (xF E c n g (.bool (E.quoted i)) w) :=
 (VI h i).mono fun e w' hb=>⟨hb.1,h.below hb.2,lA c hb.2⟩
theorem PK (h:Rd E c n g w) (H:aB E S) (F:F) (hf:xD F≠0) (hs:NF F=false∧okF F=true) (hcf:Tryz.prog.funcs[xD F]?.map (fun f=>(f.name== "runtime.NumGoroutine",f.body.isNone))=some (false,false)) (hr:S.t F n false≠.out) :
  Calls Tryz.prog 102 #[.pointer (some ⟨c,0,none⟩),.func (.func (xD F)) #[.pointer (some ⟨c,0,none⟩)] #[]] w (Ans E c g (S.t F n false) w):=by
 refine (GG h (xD F) #[.pointer (some ⟨c,0,none⟩)] #[] (fun w1=>?_) (S.t F n false) (fun _=>True) w (Fr.refl _ _) h.lt (fun w1 hR hF=>(H.t F c n false w1 hf (DA hs.1 hR.at_ hs.2) hR hr).mono (fun e w' hA=>⟨fun _ _=>trivial,hA.behind hF⟩))).mono (fun e w' hA=>hA.2);obtain⟨fn,h1,h2⟩:=Option.map_eq_some_iff.1 hcf;exact VE h1 (by simpa using congrArg Prod.fst h2) (by simpa using congrArg Prod.snd h2) _ _
theorem SE (h:Rd E c n g w) (H:aB E S) (F:F) (hf:xD F≠0) (hs:NF F=false∧okF F=true) (hcf:Tryz.prog.funcs[xD F]?.map (fun f=>(f.name== "runtime.NumGoroutine",f.body.isNone))=some (false,false)) (hr:S.t F n true≠.out) :
  Calls Tryz.prog 248 #[.pointer (some ⟨c,0,none⟩),.func (.func (xD F)) #[.pointer (some ⟨c,0,none⟩)] #[]] w (Ans E c g (S.t F n true) w):=by
 refine (QO h (xD F) #[.pointer (some ⟨c,0,none⟩)] #[] (fun w1=>?_) (S.t F n true) (fun _=>True) w (Fr.refl _ _) h.lt (fun w1 hR hF=>(H.t F c n true w1 hf (DA hs.1 hR.at_ hs.2) hR hr).mono (fun e w' hA=>⟨fun _ _=>trivial,hA.behind hF⟩))).mono (fun e w' hA=>hA.2);obtain⟨fn,h1,h2⟩:=Option.map_eq_some_iff.1 hcf;exact VE h1 (by simpa using congrArg Prod.fst h2) (by simpa using congrArg Prod.snd h2) _ _
end
theorem cF {f:FuncId} (hcf:Tryz.prog.funcs[f]?.map (fun f=>(f.name== "runtime.NumGoroutine",f.body.isNone))=some (false,false)) (args:Array Value) (w:World):Sem.run Tryz.prog (callFunc f args) w=.ok (.enter f args) w:=by
 obtain⟨fn,h1,h2⟩:=Option.map_eq_some_iff.1 hcf;exact VE h1 (by simpa using congrArg Prod.fst h2) (by simpa using congrArg Prod.snd h2) _ _
structure El (E:Ev) (c:Nat) (g:Bool) (k:Nat) (w:World) (o:One) (f:FuncId) (first cap:Array Value):Prop where
 cf:∀ w1,Sem.run Tryz.prog (callFunc f (first++cap)) w1=.ok (.enter f (first++cap)) w1
 nc:o≠.call
 does:∀ j n1 w1,j < k→Rd E c n1 g w1→Fr [c] w w1→(kA E.toEnv j).t (.one o) n1 g≠.out→Calls Tryz.prog f (first++cap) w1 (Ans E c g ((kA E.toEnv j).t (.one o) n1 g) w1)
theorem RR {E:Env}{S:AB}{o:One} (ho:o≠.call) (word:Int) (n:Nat) (g:Bool):zM E S o word n g=(S.t (.one o) n g).andThen fun x n1=>.ok (x,word) n1:=by
 cases o <;> first|rfl|exact absurd rfl ho
section
variable {E:Ev}{c n k:Nat}{g:Bool}{w0:World}{P:World→Prop}{T X:R Tr}{w:World}{Q:Ending→World→Prop}
theorem El.meth (H:∀ j,j≤k→aB E (kA E.toEnv j)) (o:One) (hf:xD (.one o)≠0) (ho:o≠.call) (hcf:Tryz.prog.funcs[xD (.one o)]?.map (fun f=>(f.name== "runtime.NumGoroutine",f.body.isNone))=some (false,false)) :
  El E c g k w o (xD (.one o)) #[.pointer (some ⟨c,0,none⟩)] #[]:=by
 refine⟨fun w1=>?_,ho,fun j n1 w1 hj hR _ hr=>(H j (by omega)).t (.one o) c n1 g w1 hf (DA rfl hR.at_) hR hr⟩;obtain⟨fn,h1,h2⟩:=Option.map_eq_some_iff.1 hcf;exact VE h1 (by simpa using congrArg Prod.fst h2) (by simpa using congrArg Prod.snd h2) _ _
theorem xG {K:List Tr × Int→Nat→R Tr}{x y z:UInt8}{op mark shut:List UInt8}{o:One}{f:FuncId}{first cap:Array Value}
  (h:Hid (Sx E c n g w0 P T ((rows E.toEnv (kA E.toEnv k) (x::op) (y::mark) (z::shut) o n g).andThen K) w)) (hk:k≤1099511627776) (he:El E c g k w o f first cap) (hB:∀ k w',Ans E c g T w0 (Up k) w'→Q (Up k) w')
  (hQ:∀ v rs u n' w',rs.length≤k→Hid (Sx E c n' g w0 (Rw E c w v rs u.1 [] []) T (K u n') w')→Q (.returned v) w') :
  Calls Tryz.prog 160 #[.pointer (some ⟨c,0,none⟩),.string ⟨(x::op).toArray⟩,.string ⟨(y::mark).toArray⟩,.string ⟨(z::shut).toArray⟩,.func (.func f) first cap] w Q:=by
 have hh:=h.out;have hr:rows E.toEnv (kA E.toEnv k) (x::op) (y::mark) (z::shut) o n g≠.out:=fun e=>hh.ne (by rw [hh.eq,e];rfl)
 refine (EO hh.rd k hk x y z op mark shut o f first cap he.cf [c] (fun i hi=>by simp at hi;subst hi;exact hh.rd.lt) (by simp) (fun wd _=>wd=-1) (fun _ _ _ h _ _=>h) rfl (fun j n1 word w1 hj hR hF hw hne=>?_) hr).mono ?_
 ·subst hw;rw [RR he.nc] at hne ⊢;have hne2:(kA E.toEnv j).t (.one o) n1 g≠.out:=fun e=>hne (by rw [e];rfl)
  refine (he.does j n1 w1 hj hR hF hne2).mono ?_;intro e w' hA;cases hc:(kA E.toEnv j).t (.one o) n1 g with
  | out=>exact absurd hc hne2
  | bad k2=>rw [hc] at hA;exact hA
  | ok t m=>rw [hc] at hA;obtain⟨p,a1,a2,a3,a4⟩:=hA;exact⟨p,a1,a2,a3,a4,rfl⟩
 ·intro e w' hA;cases hc:rows E.toEnv (kA E.toEnv k) (x::op) (y::mark) (z::shut) o n g with
  | out=>exact absurd hc hr
  | bad k2=>rw [hc] at hA hh;obtain⟨rfl,q1,q2⟩:=hA;exact hB k2 w' (hh.bad rfl q1 q2)
  | ok u m =>
   rw [hc] at hA hh;obtain⟨v,rs,rfl,q1,q2,q3,_,q4⟩:=hA;exact hQ v rs u m w' q4 ((hh.step q3 q1 rfl).with ⟨q3,hh.rd.lt,q2.1,q2.2,trivial,hh.rd.zlt.imp id (fun h e=>by have:=(q2.1.lt _ e).1;omega)⟩ Rw.later)
end
end
section
open Go.RowKit
variable {E:Ev}{S:AB}{c n:Nat}{g:Bool}{w:World}
theorem fI (h:Rd E c n g w) :
  Calls Tryz.prog 188 #[.pointer (some ⟨c,0,none⟩)] w (xF E c n g (.bool (quiet E.toEnv n)) w):=by
 have H0:=Sx.start (T:=bR (quiet E.toEnv n)) h QL rfl
 conv at H0=>arg 1;arg 8;unfold quiet
 try simp only [bs,reduceCtorEq] at H0
 clear h;go_enter Tryz.func188,Tryz.ntmps188;go_wp2_with fail;cases h1:E.is n [59] with
 | true =>
  have d2:(E.word (n:Nat)==[59])=true:=h1;simp only [h1,bs,reduceCtorEq] at H0;have HLTh1:=hid (gA h1);have HYh1:=hid h1;clear h1;refine cA H0 ?_;intro w3 H4;clear H0;go_wp2_with fail;go_ret;exact gC H4
 | false =>
  have d2:(E.word (n:Nat)==[59])=false:=h1;simp only [h1,bs,reduceCtorEq] at H0;clear h1;refine cA H0 ?_;intro w5 H6;clear H0;go_wp2_with fail;cases h7:E.is n [125] with
  | true =>
   have d8:(E.word (n:Nat)==[125])=true:=h7;simp only [h7,bs,reduceCtorEq] at H6;have HLTh7:=hid (gA h7);have HYh7:=hid h7;clear h7;refine cA H6 ?_;intro w9 H10;clear H6;go_wp2_with fail;go_ret;exact gC H10
  | false =>
   have d8:(E.word (n:Nat)==[125])=false:=h7;simp only [h7,bs,reduceCtorEq] at H6;clear h7;refine cA H6 ?_;intro w11 H12;clear H6;go_wp2_with fail;cases h13:E.ended n with
   | true =>
    simp only [h13,bs,reduceCtorEq] at H12;refine AD H12 true h13 ?_;intro w14 H15;clear H12;have HYh13:=hid h13;clear h13;go_wp2_with fail;go_ret;exact gC H15
   | false =>
    simp only [h13,bs,reduceCtorEq] at H12;refine AD H12 false h13 ?_;intro w16 H17;clear H12;clear h13;go_wp2_with fail;go_ret;exact gC H17
theorem jK (h:Rd E c n g w) :
  Calls Tryz.prog 192 #[.pointer (some ⟨c,0,none⟩)] w (xF E c n g (.bool (generic E.toEnv n)) w):=by
 have H0:=Sx.start (T:=bR (generic E.toEnv n)) h QL rfl
 conv at H0=>arg 1;arg 8;unfold generic
 try simp only [bs,reduceCtorEq] at H0
 clear h;go_enter Tryz.func192,Tryz.ntmps192;go_wp2_with fail;cases h1:E.is n [91] with
 | true =>
  have d2:(E.word (n:Nat)==[91])=true:=h1;simp only [h1,bs,reduceCtorEq] at H0;have HLTh1:=hid (gA h1);have HYh1:=hid h1;clear h1;refine cA H0 ?_;intro w3 H4;clear H0;obtain⟨_,_,_,hat6,_⟩:=H4.out.rd.cells;have hsm7:((n:Nat):Int)≤1099511627776:=by have:=H4.out.rd.at_;have:=H4.out.rd.lie.small;omega
  go_wp2_with fail;cases h5:E.named (((n:Nat):Int)+1) with
  | true =>
   simp only [h5,bs,reduceCtorEq] at H4;refine RB H4 _ true h5 ?_;intro w8 H9;clear H4 hat6 hsm7;have HYh5:=hid h5;clear h5;obtain⟨_,_,_,hat10,_⟩:=H9.out.rd.cells;have hsm11:((n:Nat):Int)≤1099511627776:=by have:=H9.out.rd.at_;have:=H9.out.rd.lie.small;omega
   go_wp2_with fail;cases h13:E.is (n+2) [44] with
   | true =>
    have d14:(E.word (((n:Nat):Int)+2)==[44])=true:=by rw [show (((n:Nat):Int)+2)=((n+2:Nat):Int) from by omega];exact h13
    simp only [h13,bs,reduceCtorEq] at H9;clear h13;refine OA H9 _ ?_;intro w12 H15;clear H9 hat10 hsm11;go_wp2_with fail;go_ret;exact gC H15
   | false =>
    have d14:(E.word (((n:Nat):Int)+2)==[44])=false:=by rw [show (((n:Nat):Int)+2)=((n+2:Nat):Int) from by omega];exact h13
    simp only [h13,bs,reduceCtorEq] at H9;clear h13;cases h17:E.is (n+2) [126] with
    | true =>
     have d18:(E.word (((n:Nat):Int)+2)==[126])=true:=by rw [show (((n:Nat):Int)+2)=((n+2:Nat):Int) from by omega];exact h17
     simp only [h17,bs,reduceCtorEq] at H9;clear h17;refine OA H9 _ ?_;intro w16 H19;clear H9 hat10 hsm11;go_wp2_with fail;go_ret;exact gC H19
    | false =>
     have d18:(E.word (((n:Nat):Int)+2)==[126])=false:=by rw [show (((n:Nat):Int)+2)=((n+2:Nat):Int) from by omega];exact h17
     simp only [h17,bs,reduceCtorEq] at H9;clear h17;cases h21:E.is (n+2) [105,110,116,101,114,102,97,99,101] with
     | true =>
      have d22:(E.word (((n:Nat):Int)+2)==[105,110,116,101,114,102,97,99,101])=true:=by rw [show (((n:Nat):Int)+2)=((n+2:Nat):Int) from by omega];exact h21
      simp only [h21,bs,reduceCtorEq] at H9;clear h21;refine OA H9 _ ?_;intro w20 H23;clear H9 hat10 hsm11;go_wp2_with fail;go_ret;exact gC H23
     | false =>
      have d22:(E.word (((n:Nat):Int)+2)==[105,110,116,101,114,102,97,99,101])=false:=by rw [show (((n:Nat):Int)+2)=((n+2:Nat):Int) from by omega];exact h21
      simp only [h21,bs,reduceCtorEq] at H9;clear h21;cases h25:E.is (n+2) [102,117,110,99] with
      | true =>
       have d26:(E.word (((n:Nat):Int)+2)==[102,117,110,99])=true:=by rw [show (((n:Nat):Int)+2)=((n+2:Nat):Int) from by omega];exact h25
       simp only [h25,bs,reduceCtorEq] at H9;clear h25;refine OA H9 _ ?_;intro w24 H27;clear H9 hat10 hsm11;go_wp2_with fail;go_ret;exact gC H27
      | false =>
       have d26:(E.word (((n:Nat):Int)+2)==[102,117,110,99])=false:=by rw [show (((n:Nat):Int)+2)=((n+2:Nat):Int) from by omega];exact h25
       simp only [h25,bs,reduceCtorEq] at H9;clear h25;cases h29:E.is (n+2) [109,97,112] with
       | true =>
        have d30:(E.word (((n:Nat):Int)+2)==[109,97,112])=true:=by rw [show (((n:Nat):Int)+2)=((n+2:Nat):Int) from by omega];exact h29
        simp only [h29,bs,reduceCtorEq] at H9;clear h29;refine OA H9 _ ?_;intro w28 H31;clear H9 hat10 hsm11;go_wp2_with fail;go_ret;exact gC H31
       | false =>
        have d30:(E.word (((n:Nat):Int)+2)==[109,97,112])=false:=by rw [show (((n:Nat):Int)+2)=((n+2:Nat):Int) from by omega];exact h29
        simp only [h29,bs,reduceCtorEq] at H9;clear h29;cases h33:E.is (n+2) [99,104,97,110] with
        | true =>
         have d34:(E.word (((n:Nat):Int)+2)==[99,104,97,110])=true:=by rw [show (((n:Nat):Int)+2)=((n+2:Nat):Int) from by omega];exact h33
         simp only [h33,bs,reduceCtorEq] at H9;clear h33;refine OA H9 _ ?_;intro w32 H35;clear H9 hat10 hsm11;go_wp2_with fail;go_ret;exact gC H35
        | false =>
         have d34:(E.word (((n:Nat):Int)+2)==[99,104,97,110])=false:=by rw [show (((n:Nat):Int)+2)=((n+2:Nat):Int) from by omega];exact h33
         simp only [h33,bs,reduceCtorEq] at H9;clear h33;cases h37:E.is (n+2) [115,116,114,117,99,116] with
         | true =>
          have d38:(E.word (((n:Nat):Int)+2)==[115,116,114,117,99,116])=true:=by rw [show (((n:Nat):Int)+2)=((n+2:Nat):Int) from by omega];exact h37
          simp only [h37,bs,reduceCtorEq] at H9;clear h37;refine OA H9 _ ?_;intro w36 H39;clear H9 hat10 hsm11;go_wp2_with fail;go_ret;exact gC H39
         | false =>
          have d38:(E.word (((n:Nat):Int)+2)==[115,116,114,117,99,116])=false:=by rw [show (((n:Nat):Int)+2)=((n+2:Nat):Int) from by omega];exact h37
          simp only [h37,bs,reduceCtorEq] at H9;clear h37;refine OA H9 _ ?_;intro w40 H41;clear H9 hat10 hsm11;obtain⟨_,_,_,hat43,_⟩:=H41.out.rd.cells;have hsm44:((n:Nat):Int)≤1099511627776:=by have:=H41.out.rd.at_;have:=H41.out.rd.lie.small;omega
          go_wp2_with fail;cases h42:E.named (((n:Nat):Int)+2) with
          | true =>
           simp only [h42,bs,reduceCtorEq] at H41;refine RB H41 _ true h42 ?_;intro w45 H46;clear H41 hat43 hsm44;have HYh42:=hid h42;clear h42;go_wp2_with fail;go_ret;exact gC H46
          | false =>
           simp only [h42,bs,reduceCtorEq] at H41;refine RB H41 _ false h42 ?_;intro w47 H48;clear H41 hat43 hsm44;clear h42;go_wp2_with fail;go_ret;exact gC H48
  | false =>
   simp only [h5,bs,reduceCtorEq] at H4;refine RB H4 _ false h5 ?_;intro w49 H50;clear H4 hat6 hsm7;clear h5;go_wp2_with fail;go_ret;exact gC H50
 | false =>
  have d2:(E.word (n:Nat)==[91])=false:=h1;simp only [h1,bs,reduceCtorEq] at H0;clear h1;refine cA H0 ?_;intro w51 H52;clear H0;go_wp2_with fail;go_ret;exact gC H52
theorem fL (h:Rd E c n g w) (hr:zH E.toEnv n≠.out) :
  Calls Tryz.prog 182 #[.pointer (some ⟨c,0,none⟩)] w (Ans E c g (zH E.toEnv n) w):=by
 have H0:=Sx.start h hr rfl
 conv at H0=>arg 1;arg 8;unfold zH
 try simp only [bs,reduceCtorEq] at H0
 clear h hr;go_enter Tryz.func182,Tryz.ntmps182;obtain⟨_,_,_,hat2,_⟩:=H0.out.rd.cells;have hsm3:((n:Nat):Int)≤1099511627776:=by have:=H0.out.rd.at_;have:=H0.out.rd.lie.small;omega
 go_wp2_with fail;cases h1:E.quoted (n:Nat) with
 | true =>
  simp only [h1,bs,reduceCtorEq] at H0;refine kB H0 (by have hq:=cG H0.out.rd (n:Nat);rw [h1] at hq;exact hq) ?_;intro w4 H5;clear H0 hat2 hsm3;have HYh1:=hid h1;clear h1;go_wp2_with fail;refine pG H5 (fun _=>FN H5.out.rd) (fun _ _ h=>⟨rfl,h⟩) ?_;intro q wz HA;clear H5;go_wp2_with fail;go_ret;exact HA.out
 | false =>
  simp only [h1,bs,reduceCtorEq] at H0;refine kB H0 (by have hq:=cG H0.out.rd (n:Nat);rw [h1] at hq;exact hq) ?_;intro w6 H7;clear H0 hat2 hsm3;clear h1;go_wp2_with fail;refine jL (k2:=0) H7 ?_;intro q wz HA;clear H7;go_wp2_with fail;go_ret;exact HA.out
theorem bJ (H:aB E S) (h:Rd E c n g w) (hr:mC E.toEnv S true n g≠.out) :
  Calls Tryz.prog 190 #[.pointer (some ⟨c,0,none⟩),.bool true] w (Ans E c g (mC E.toEnv S true n g) w):=by
 have HD:=hid H;clear H;have H0:=Sx.start h hr rfl
 conv at H0=>arg 1;arg 8;unfold mC
 try simp only [bs,reduceCtorEq] at H0
 clear h hr;go_enter Tryz.func190,Tryz.ntmps190;go_wp2_with fail;refine FA H0 (fun _ _ h=>⟨rfl,h⟩) ?_;intro n2 w1 H3;clear H0;go_wp2_with fail;refine aE (F:=.exprs) H3 HD (by decide) ⟨rfl,rfl⟩ (fun _ _ h=>⟨rfl,h⟩) ?_;intro q wz HA;clear H3;go_wp2_with fail;go_ret;exact HA.out
theorem PJ (H:aB E S) (h:Rd E c n g w) (hr:mC E.toEnv S false n g≠.out) :
  Calls Tryz.prog 190 #[.pointer (some ⟨c,0,none⟩),.bool false] w (Ans E c g (mC E.toEnv S false n g) w):=by
 have HD:=hid H;clear H;have H0:=Sx.start h hr rfl
 conv at H0=>arg 1;arg 8;unfold mC
 try simp only [bs,reduceCtorEq] at H0
 clear h hr;go_enter Tryz.func190,Tryz.ntmps190;go_wp2_with fail;cases h1:E.is n [61] with
 | true =>
  have d2:(E.word (n:Nat)==[61])=true:=h1;simp only [h1,bs,reduceCtorEq] at H0;have HLTh1:=hid (gA h1);have HYh1:=hid h1;clear h1;refine cA H0 ?_;intro w3 H4;clear H0;go_wp2_with fail;refine FA H4 (fun _ _ h=>⟨rfl,h⟩) ?_;intro n6 w5 H7;clear H4;go_wp2_with fail;refine aE (F:=.exprs) H7 HD (by decide) ⟨rfl,rfl⟩ (fun _ _ h=>⟨rfl,h⟩) ?_;intro q wz HA;clear H7;go_wp2_with fail;go_ret;exact HA.out
 | false =>
  have d2:(E.word (n:Nat)==[61])=false:=h1;simp only [h1,bs,reduceCtorEq] at H0;clear h1;refine cA H0 ?_;intro w8 H9;clear H0;go_wp2_with fail;refine jL (k2:=0) H9 ?_;intro q wz HA;clear H9;go_wp2_with fail;go_ret;exact HA.out
end
section
open Go.RowKit
variable {E:Ev}{S:AB}{c n:Nat}{g:Bool}{w:World}
theorem UL (H:aB E S) (h:Rd E c n g w) (hr:IB E.toEnv S n g≠.out) :
  Calls Tryz.prog 156 #[.pointer (some ⟨c,0,none⟩)] w (Ans E c g (IB E.toEnv S n g) w):=by
 have HD:=hid H;clear H;have H0:=Sx.start h hr rfl
 conv at H0=>arg 1;arg 8;unfold IB
 try simp only [bs,reduceCtorEq] at H0
 clear h hr;go_enter Tryz.func156,Tryz.ntmps156;go_wp2_with fail;refine yB H0 6 ?_;intro p w1 H2;clear H0;go_wp2_with fail;refine jA (F:=.names) H2 HD (by decide) ⟨rfl,rfl⟩ (fun _ _ h=>⟨rfl,h⟩) ?_;intro q5 t6 n4 w3 H7;clear H2;go_wp2_with fail;refine IA H7 0 ?_;intro q9 w8 H10;clear H7;go_wp2_with fail;cases h11:E.is n4 [61] with
 | true =>
  have d12:(E.word (n4:Nat)==[61])=true:=h11;simp only [h11,bs,reduceCtorEq] at H10;have HLTh11:=hid (gA h11);have HYh11:=hid h11;clear h11;refine cA H10 ?_;intro w13 H14;clear H10;go_wp2_with fail;refine TB H14 (PJ HD.out H14.out.rd) (fun _ _ h=>⟨rfl,h⟩) ?_;intro q17 t18 n16 w15 H19;clear H14;go_wp2_with fail;refine (eA H19 (by simp)).mono ?_;rintro e wz ⟨rfl,HA⟩;clear H19;go_wp2_with fail;go_ret;exact HA.out
 | false =>
  have d12:(E.word (n4:Nat)==[61])=false:=h11;simp only [h11,bs,reduceCtorEq] at H10;clear h11;refine cA H10 ?_;intro w20 H21;clear H10;have H22:=pB H21;clear H21;go_wp2_with fail;refine jA (F:=.typ) H22 HD (by decide) ⟨rfl,rfl⟩ (fun _ _ h=>⟨rfl,h⟩) ?_;intro q25 t26 n24 w23 H27;clear H22;go_wp2_with fail;refine TB H27 (PJ HD.out H27.out.rd) (fun _ _ h=>⟨rfl,h⟩) ?_;intro q30 t31 n29 w28 H32;clear H27;go_wp2_with fail;refine (eA H32 (by simp)).mono ?_;rintro e wz ⟨rfl,HA⟩;clear H32;go_wp2_with fail;go_ret;exact HA.out
theorem wL (H:aB E S) (h:Rd E c n g w) (hr:LB E.toEnv S n g≠.out) :
  Calls Tryz.prog 158 #[.pointer (some ⟨c,0,none⟩)] w (Ans E c g (LB E.toEnv S n g) w):=by
 have HD:=hid H;clear H;have H0:=Sx.start h hr rfl
 conv at H0=>arg 1;arg 8;unfold LB
 try simp only [bs,reduceCtorEq] at H0
 clear h hr;go_enter Tryz.func158,Tryz.ntmps158;go_wp2_with fail;refine yB H0 6 ?_;intro p w1 H2;clear H0;go_wp2_with fail;refine jA (F:=.names) H2 HD (by decide) ⟨rfl,rfl⟩ (fun _ _ h=>⟨rfl,h⟩) ?_;intro q5 t6 n4 w3 H7;clear H2;go_wp2_with fail;refine IA H7 0 ?_;intro q9 w8 H10;clear H7;go_wp2_with fail;cases h11:E.is n4 [59] with
 | true =>
  have d12:(E.word (n4:Nat)==[59])=true:=h11;simp only [h11,bs,reduceCtorEq] at H10;have HLTh11:=hid (gA h11);have HYh11:=hid h11;clear h11;refine cA H10 ?_;intro w13 H14;clear H10;go_wp2_with fail;refine IA H14 0 ?_;intro q16 w15 H17;clear H14;go_wp2_with fail;refine (eA H17 (by simp)).mono ?_;rintro e wz ⟨rfl,HA⟩;clear H17;go_wp2_with fail;go_ret;exact HA.out
 | false =>
  have d12:(E.word (n4:Nat)==[59])=false:=h11;simp only [h11,bs,reduceCtorEq] at H10;clear h11;cases h18:E.is n4 [41] with
  | true =>
   have d19:(E.word (n4:Nat)==[41])=true:=h18;simp only [h18,bs,reduceCtorEq] at H10;have HLTh18:=hid (gA h18);have HYh18:=hid h18;clear h18;refine cA H10 ?_;intro w20 H21;clear H10;go_wp2_with fail;refine IA H21 0 ?_;intro q23 w22 H24;clear H21;go_wp2_with fail;refine (eA H24 (by simp)).mono ?_;rintro e wz ⟨rfl,HA⟩;clear H24;go_wp2_with fail;go_ret;exact HA.out
  | false =>
   have d19:(E.word (n4:Nat)==[41])=false:=h18;simp only [h18,bs,reduceCtorEq] at H10;clear h18;refine cA H10 ?_;intro w25 H26;clear H10;go_wp2_with fail;cases h27:E.ended n4 with
   | true =>
    simp only [h27,bs,reduceCtorEq] at H26;refine AD H26 true h27 ?_;intro w28 H29;clear H26;have HYh27:=hid h27;clear h27;go_wp2_with fail;refine IA H29 0 ?_;intro q31 w30 H32;clear H29;go_wp2_with fail;refine (eA H32 (by simp)).mono ?_;rintro e wz ⟨rfl,HA⟩;clear H32;go_wp2_with fail;go_ret;exact HA.out
   | false =>
    simp only [h27,bs,reduceCtorEq] at H26;refine AD H26 false h27 ?_;intro w33 H34;clear H26;clear h27;cases h35:E.is n4 [61] with
    | true =>
     have d36:(E.word (n4:Nat)==[61])=true:=h35;simp only [h35,bs,reduceCtorEq] at H34;have HLTh35:=hid (gA h35);clear h35;go_wp2_with fail;refine TB H34 (bJ HD.out H34.out.rd) (fun _ _ h=>⟨rfl,h⟩) ?_;intro q39 t40 n38 w37 H41;clear H34;go_wp2_with fail;refine (eA H41 (by simp)).mono ?_;rintro e wz ⟨rfl,HA⟩;clear H41;go_wp2_with fail;go_ret;exact HA.out
    | false =>
     have d36:(E.word (n4:Nat)==[61])=false:=h35;simp only [h35,bs,reduceCtorEq] at H34;clear h35;have H42:=pB H34;clear H34;go_wp2_with fail;refine jA (F:=.typ) H42 HD (by decide) ⟨rfl,rfl⟩ (fun _ _ h=>⟨rfl,h⟩) ?_;intro q45 t46 n44 w43 H47;clear H42;go_wp2_with fail;refine TB H47 (bJ HD.out H47.out.rd) (fun _ _ h=>⟨rfl,h⟩) ?_;intro q50 t51 n49 w48 H52;clear H47;go_wp2_with fail;refine (eA H52 (by simp)).mono ?_;rintro e wz ⟨rfl,HA⟩;clear H52;go_wp2_with fail;go_ret;exact HA.out
theorem EK (h:Rd E c n g w) (hr:uB E.toEnv n≠.out) :
  Calls Tryz.prog 157 #[.pointer (some ⟨c,0,none⟩)] w (Ans E c g (uB E.toEnv n) w):=by
 have H0:=Sx.start h hr rfl
 conv at H0=>arg 1;arg 8;unfold uB
 try simp only [bs,reduceCtorEq] at H0
 clear h hr;go_enter Tryz.func157,Tryz.ntmps157;go_wp2_with fail;refine yB H0 5 ?_;intro p w1 H2;clear H0;go_wp2_with fail;refine IA H2 0 ?_;intro q4 w3 H5;clear H2;go_wp2_with fail;cases h6:E.is n [46] with
 | true =>
  have d7:(E.word (n:Nat)==[46])=true:=h6;simp only [h6,bs,reduceCtorEq] at H5;have HLTh6:=hid (gA h6);have HYh6:=hid h6;clear h6;refine cA H5 ?_;intro w8 H9;clear H5;obtain⟨_,_,_,hat11,_⟩:=H9.out.rd.cells;have hsm12:((n:Nat):Int)≤1099511627776:=by have:=H9.out.rd.at_;have:=H9.out.rd.lie.small;omega
  obtain⟨_,hk14,hf15,_,_⟩:=H9.out.ex.opn.blk.cells;have hfz13:=H9.out.ex.opn.blk.free 1;have H10:=oD H9 ((n:Nat):Int);clear H9;obtain⟨_,_,_,hat18,_⟩:=H10.out.rd.cells;have hsm19:((n:Nat):Int)≤1099511627776:=by have:=H10.out.rd.at_;have:=H10.out.rd.lie.small;omega
  have hfz17:=H10.out.rd.free 3;have H16:=ZA H10 HLTh6;clear H10;obtain⟨n20,hm⟩:∃ m,m=n+1:=⟨_,rfl⟩;simp only [← hm] at H16;have HMn20:=hid hm;clear hm;go_wp2_with fail;generalize ((w8.setCell ⟨p,1,none⟩ (.int .i64 ((n:Nat):Int))).setCell ⟨c,3,none⟩ (.int .i64 (((n:Nat):Int)+1)))=w21 at *;clear hat11 hsm12 hfz13 hk14 hf15 hat18 hsm19 hfz17
  try simp only [show (((n:Nat):Int)+1)=((n20:Nat):Int) from by have:=HMn20.out;omega] at H16
  refine kW H16 (fun _ _ h=>⟨rfl,h⟩) ?_;intro q24 t25 n23 w22 H26;clear H16;go_wp2_with fail;refine (eA H26 (by simp)).mono ?_;rintro e wz ⟨rfl,HA⟩;clear H26;go_wp2_with fail;go_ret;exact HA.out
 | false =>
  have d7:(E.word (n:Nat)==[46])=false:=h6;simp only [h6,bs,reduceCtorEq] at H5;clear h6;refine cA H5 ?_;intro w27 H28;clear H5;obtain⟨_,_,_,hat30,_⟩:=H28.out.rd.cells;have hsm31:((n:Nat):Int)≤1099511627776:=by have:=H28.out.rd.at_;have:=H28.out.rd.lie.small;omega
  go_wp2_with fail;cases h29:E.named ((n:Nat):Int) with
  | true =>
   simp only [h29,bs,reduceCtorEq] at H28;refine RB H28 _ true h29 ?_;intro w32 H33;clear H28 hat30 hsm31;have HYh29:=hid h29;clear h29;have H34:=pB H33;clear H33;go_wp2_with fail;refine lG H34 (fun _ _ h=>⟨rfl,h⟩) ?_;intro q37 t38 n36 w35 H39;clear H34;go_wp2_with fail;refine kW H39 (fun _ _ h=>⟨rfl,h⟩) ?_;intro q42 t43 n41 w40 H44;clear H39;go_wp2_with fail;refine (eA H44 (by simp)).mono ?_;rintro e wz ⟨rfl,HA⟩;clear H44;go_wp2_with fail;go_ret;exact HA.out
  | false =>
   simp only [h29,bs,reduceCtorEq] at H28;refine RB H28 _ false h29 ?_;intro w45 H46;clear H28 hat30 hsm31;clear h29;go_wp2_with fail;refine kW H46 (fun _ _ h=>⟨rfl,h⟩) ?_;intro q49 t50 n48 w47 H51;clear H46;go_wp2_with fail;refine (eA H51 (by simp)).mono ?_;rintro e wz ⟨rfl,HA⟩;clear H51;go_wp2_with fail;go_ret;exact HA.out
theorem wM (H:aB E S) (h:Rd E c n g w) (hn:n < E.l.length) (hr:lC S n g≠.out) :
  Calls Tryz.prog 219 #[.pointer (some ⟨c,0,none⟩)] w (Ans E c g (lC S n g) w):=by
 have HLT:=hid hn;clear hn;have HD:=hid H;clear H;have H0:=Sx.start h hr rfl
 conv at H0=>arg 1;arg 8;unfold lC
 try simp only [bs,reduceCtorEq] at H0
 clear h hr;go_enter Tryz.func219,Tryz.ntmps219;go_wp2_with fail;refine yB H0 68 ?_;intro p w1 H2;clear H0;go_wp2_with fail;refine qI (F:=.group) H2 HD (by decide) rfl HLT (fun _ _ h=>⟨rfl,h⟩) ?_;intro q5 t6 n4 w3 H7;clear H2;go_wp2_with fail;refine (eA H7 (by simp)).mono ?_;rintro e wz ⟨rfl,HA⟩;clear H7;go_wp2_with fail;go_ret;exact HA.out
theorem rO (H:aB E S) (h:Rd E c n g w) (hn:n < E.l.length) (hr:aD E.toEnv S n g≠.out) :
  Calls Tryz.prog 220 #[.pointer (some ⟨c,0,none⟩)] w (Ans E c g (aD E.toEnv S n g) w):=by
 have HLT:=hid hn;clear hn;have HD:=hid H;clear H;have H0:=Sx.start h hr rfl
 conv at H0=>arg 1;arg 8;unfold aD
 try simp only [bs,reduceCtorEq] at H0
 clear h hr;go_enter Tryz.func220,Tryz.ntmps220;go_wp2_with fail;refine yB H0 54 ?_;intro p w1 H2;clear H0;go_wp2_with fail;cases h3:E.is n [100,101,102,101,114] with
 | true =>
  have d4:(E.word (n:Nat)==[100,101,102,101,114])=true:=h3;simp only [h3,bs,reduceCtorEq] at H2;have HLTh3:=hid (gA h3);have HYh3:=hid h3;clear h3;refine cA H2 ?_;intro w5 H6;clear H2;obtain⟨hk9,_,hf10,_,_⟩:=H6.out.ex.opn.blk.cells;have hfz8:=H6.out.ex.opn.blk.free 0;have H7:Hid (Sx _ _ _ _ _ _ _ _ (w5.setCell ⟨p,0,none⟩ (.int .u8 55))):=dB H6 55;clear H6;obtain⟨_,_,_,hat13,_⟩:=H7.out.rd.cells;have hsm14:((n:Nat):Int)≤1099511627776:=by have:=H7.out.rd.at_;have:=H7.out.rd.lie.small;omega
  have hfz12:=H7.out.rd.free 3;have H11:=ZA H7 HLTh3;clear H7;obtain⟨n15,hm⟩:∃ m,m=n+1:=⟨_,rfl⟩;simp only [← hm] at H11;have HMn15:=hid hm;clear hm;go_wp2_with fail;generalize ((w5.setCell ⟨p,0,none⟩ (.int .u8 55)).setCell ⟨c,3,none⟩ (.int .i64 (((n:Nat):Int)+1)))=w16 at *;clear hfz8 hk9 hf10 hat13 hsm14 hfz12
  try simp only [show (((n:Nat):Int)+1)=((n15:Nat):Int) from by have:=HMn15.out;omega] at H11
  refine jA (F:=.expr) H11 HD (by decide) ⟨rfl,rfl⟩ (fun _ _ h=>⟨rfl,h⟩) ?_;intro q19 t20 n18 w17 H21;clear H11;go_wp2_with fail;refine (eA H21 (by simp)).mono ?_;rintro e wz ⟨rfl,HA⟩;clear H21;go_wp2_with fail;go_ret;exact HA.out
 | false =>
  have d4:(E.word (n:Nat)==[100,101,102,101,114])=false:=h3;simp only [h3,bs,reduceCtorEq] at H2;clear h3;refine cA H2 ?_;intro w22 H23;clear H2;obtain⟨_,_,_,hat26,_⟩:=H23.out.rd.cells;have hsm27:((n:Nat):Int)≤1099511627776:=by have:=H23.out.rd.at_;have:=H23.out.rd.lie.small;omega
  have hfz25:=H23.out.rd.free 3;have H24:=ZA H23 HLT;clear H23;obtain⟨n28,hm⟩:∃ m,m=n+1:=⟨_,rfl⟩;simp only [← hm] at H24;have HMn28:=hid hm;clear hm;go_wp2_with fail;generalize (w22.setCell ⟨c,3,none⟩ (.int .i64 (((n:Nat):Int)+1)))=w29 at *;clear hat26 hsm27 hfz25
  try simp only [show (((n:Nat):Int)+1)=((n28:Nat):Int) from by have:=HMn28.out;omega] at H24
  refine jA (F:=.expr) H24 HD (by decide) ⟨rfl,rfl⟩ (fun _ _ h=>⟨rfl,h⟩) ?_;intro q32 t33 n31 w30 H34;clear H24;go_wp2_with fail;refine (eA H34 (by simp)).mono ?_;rintro e wz ⟨rfl,HA⟩;clear H34;go_wp2_with fail;go_ret;exact HA.out
theorem DM (H:aB E S) (h:Rd E c n g w) (hn:n < E.l.length) (hr:oC E.toEnv S n g≠.out) :
  Calls Tryz.prog 221 #[.pointer (some ⟨c,0,none⟩)] w (Ans E c g (oC E.toEnv S n g) w):=by
 have HLT:=hid hn;clear hn;have HD:=hid H;clear H;have H0:=Sx.start h hr rfl
 conv at H0=>arg 1;arg 8;unfold oC
 try simp only [bs,reduceCtorEq] at H0
 clear h hr;go_enter Tryz.func221,Tryz.ntmps221;go_wp2_with fail;refine yB H0 56 ?_;intro p w1 H2;clear H0;obtain⟨_,_,_,hat5,_⟩:=H2.out.rd.cells;have hsm6:((n:Nat):Int)≤1099511627776:=by have:=H2.out.rd.at_;have:=H2.out.rd.lie.small;omega
 have hfz4:=H2.out.rd.free 3;have H3:=ZA H2 HLT;clear H2;obtain⟨n7,hm⟩:∃ m,m=n+1:=⟨_,rfl⟩;simp only [← hm] at H3;have HMn7:=hid hm;clear hm;go_wp2_with fail;generalize (w1.setCell ⟨c,3,none⟩ (.int .i64 (((n:Nat):Int)+1)))=w8 at *;clear hat5 hsm6 hfz4
 try simp only [show (((n:Nat):Int)+1)=((n7:Nat):Int) from by have:=HMn7.out;omega] at H3
 refine IA H3 11 ?_;intro q10 w9 H11;clear H3;go_wp2_with fail;cases h12:quiet E.toEnv n7 with
 | true =>
  simp only [h12,bs,reduceCtorEq] at H11;refine kB H11 (by have hq:=fI H11.out.rd;rw [h12] at hq;exact hq) ?_;intro w13 H14;clear H11;have HYh12:=hid h12;clear h12;go_wp2_with fail;refine (eA H14 (by simp)).mono ?_;rintro e wz ⟨rfl,HA⟩;clear H14;go_wp2_with fail;go_ret;exact HA.out
 | false =>
  simp only [h12,bs,reduceCtorEq] at H11;refine kB H11 (by have hq:=fI H11.out.rd;rw [h12] at hq;exact hq) ?_;intro w15 H16;clear H11;clear h12;have H17:=pB H16;clear H16;go_wp2_with fail;refine jA (F:=.exprs) H17 HD (by decide) ⟨rfl,rfl⟩ (fun _ _ h=>⟨rfl,h⟩) ?_;intro q20 t21 n19 w18 H22;clear H17;go_wp2_with fail;refine (eA H22 (by simp)).mono ?_;rintro e wz ⟨rfl,HA⟩;clear H22;go_wp2_with fail;go_ret;exact HA.out
theorem tR (H:aB E S) (h:Rd E c n g w) (hr:EE E.toEnv S n g≠.out) :
  Calls Tryz.prog 163 #[.pointer (some ⟨c,0,none⟩)] w (Ans E c g (EE E.toEnv S n g) w):=by
 have HD:=hid H;clear H;have H0:=Sx.start h hr rfl
 conv at H0=>arg 1;arg 8;unfold EE
 try simp only [bs,reduceCtorEq] at H0
 clear h hr;go_enter Tryz.func163,Tryz.ntmps163;go_wp2_with fail;refine yB H0 58 ?_;intro p w1 H2;clear H0;go_wp2_with fail;refine FA H2 (fun _ _ h=>⟨rfl,h⟩) ?_;intro n4 w3 H5;clear H2;go_wp2_with fail;refine jA (F:=.stmts) H5 HD (by decide) ⟨rfl,rfl⟩ (fun _ _ h=>⟨rfl,h⟩) ?_;intro q8 t9 n7 w6 H10;clear H5;go_wp2_with fail;refine FA H10 (fun _ _ h=>⟨rfl,h⟩) ?_;intro n12 w11 H13;clear H10;go_wp2_with fail;refine (eA H13 (by simp)).mono ?_;rintro e wz ⟨rfl,HA⟩;clear H13;go_wp2_with fail;go_ret;exact HA.out
theorem bT (H:aB E S) (h:Rd E c n g w) (hr:kG E.toEnv S n g≠.out) :
  Calls Tryz.prog 149 #[.pointer (some ⟨c,0,none⟩)] w (Ans E c g (kG E.toEnv S n g) w):=by
 have HD:=hid H;clear H;have H0:=Sx.start h hr rfl
 conv at H0=>arg 1;arg 8;unfold kG
 try simp only [bs,reduceCtorEq] at H0
 clear h hr;go_enter Tryz.func149,Tryz.ntmps149;obtain⟨_,_,_,hat2,_⟩:=H0.out.rd.cells;have hsm3:((n:Nat):Int)≤1099511627776:=by have:=H0.out.rd.at_;have:=H0.out.rd.lie.small;omega
 go_wp2_with fail;cases h1:E.named ((n:Nat):Int) with
 | true =>
  simp only [h1,bs,reduceCtorEq] at H0;refine RB H0 _ true h1 ?_;intro w4 H5;clear H0 hat2 hsm3;have HYh1:=hid h1;clear h1;obtain⟨_,_,_,hat7,_⟩:=H5.out.rd.cells;have hsm8:((n:Nat):Int)≤1099511627776:=by have:=H5.out.rd.at_;have:=H5.out.rd.lie.small;omega
  go_wp2_with fail;cases h6:E.is (n+1) [40] with
  | true =>
   simp only [h6,bs,reduceCtorEq] at H5;have d10:(E.word (((n:Nat):Int)+1)==[40])=true:=by rw [show (((n:Nat):Int)+1)=((n+1:Nat):Int) from by omega];exact h6
   refine OA H5 _ ?_;intro w9 H11;clear H5 hat7 hsm8;have HLTh6:Hid (n < E.l.length):=hid (by have:=gA h6;omega);have HYh6:=hid h6;clear h6;go_wp2_with fail;refine yB H11 24 ?_;intro p w12 H13;clear H11;go_wp2_with fail;refine lG H13 (fun _ _ h=>⟨rfl,h⟩) ?_;intro q16 t17 n15 w14 H18;clear H13;go_wp2_with fail;refine jA (F:=.signature) H18 HD (by decide) ⟨rfl,rfl⟩ (fun _ _ h=>⟨rfl,h⟩) ?_;intro q21 t22 n20 w19 H23;clear H18;go_wp2_with fail;refine (eA H23 (by simp)).mono ?_;rintro e wz ⟨rfl,HA⟩;clear H23;go_wp2_with fail;go_ret;exact HA.out
  | false =>
   simp only [h6,bs,reduceCtorEq] at H5;have d25:(E.word (((n:Nat):Int)+1)==[40])=false:=by rw [show (((n:Nat):Int)+1)=((n+1:Nat):Int) from by omega];exact h6
   refine OA H5 _ ?_;intro w24 H26;clear H5 hat7 hsm8;clear h6;go_wp2_with fail;refine aE (F:=.union) H26 HD (by decide) ⟨rfl,rfl⟩ (fun _ _ h=>⟨rfl,h⟩) ?_;intro q wz HA;clear H26;go_wp2_with fail;go_ret;exact HA.out
 | false =>
  simp only [h1,bs,reduceCtorEq] at H0;refine RB H0 _ false h1 ?_;intro w27 H28;clear H0 hat2 hsm3;clear h1;go_wp2_with fail;refine aE (F:=.union) H28 HD (by decide) ⟨rfl,rfl⟩ (fun _ _ h=>⟨rfl,h⟩) ?_;intro q wz HA;clear H28;go_wp2_with fail;go_ret;exact HA.out
theorem NR (H:aB E S) (h:Rd E c n g w) (hr:QE E.toEnv S n g≠.out) :
  Calls Tryz.prog 263 #[.pointer (some ⟨c,0,none⟩)] w (Ans E c g (QE E.toEnv S n g) w):=by
 have HD:=hid H;clear H;have H0:=Sx.start h hr rfl
 conv at H0=>arg 1;arg 8;unfold QE
 try simp only [bs,reduceCtorEq] at H0
 clear h hr;go_enter Tryz.func263,Tryz.ntmps263;go_wp2_with fail;cases h1:E.is n [123] with
 | true =>
  have d2:(E.word (n:Nat)==[123])=true:=h1;simp only [h1,bs,reduceCtorEq] at H0;have HLTh1:=hid (gA h1);have HYh1:=hid h1;clear h1;refine cA H0 ?_;intro w3 H4;clear H0;go_wp2_with fail;refine yB H4 39 ?_;intro p w5 H6;clear H4;go_wp2_with fail;refine IA H6 0 ?_;intro q8 w7 H9;clear H6;go_wp2_with fail;refine jA (F:=.elements) H9 HD (by decide) ⟨rfl,rfl⟩ (fun _ _ h=>⟨rfl,h⟩) ?_;intro q12 t13 n11 w10 H14;clear H9;go_wp2_with fail;refine (eA H14 (by simp)).mono ?_;rintro e wz ⟨rfl,HA⟩;clear H14;go_wp2_with fail;go_ret;exact HA.out
 | false =>
  have d2:(E.word (n:Nat)==[123])=false:=h1;simp only [h1,bs,reduceCtorEq] at H0;clear h1;refine cA H0 ?_;intro w15 H16;clear H0;go_wp2_with fail;refine aE (F:=.expr) H16 HD (by decide) ⟨rfl,rfl⟩ (fun _ _ h=>⟨rfl,h⟩) ?_;intro q wz HA;clear H16;go_wp2_with fail;go_ret;exact HA.out
theorem gO (H:aB E S) (h:Rd E c n g w) (hr:QC E.toEnv S n g≠.out) :
  Calls Tryz.prog 247 #[.pointer (some ⟨c,0,none⟩)] w (Ans E c g (QC E.toEnv S n g) w):=by
 have HD:=hid H;clear H;have H0:=Sx.start h hr rfl
 conv at H0=>arg 1;arg 8;unfold QC
 try simp only [bs,reduceCtorEq] at H0
 clear h hr;go_enter Tryz.func247,Tryz.ntmps247;go_wp2_with fail;refine yB H0 38 ?_;intro p w1 H2;clear H0;go_wp2_with fail;refine jA (F:=.value) H2 HD (by decide) ⟨rfl,rfl⟩ (fun _ _ h=>⟨rfl,h⟩) ?_;intro q5 t6 n4 w3 H7;clear H2;go_wp2_with fail;cases h8:E.is n4 [58] with
 | true =>
  simp only [h8,bs,reduceCtorEq] at H7;refine vE H7 h8 ?_;intro n10 w9 hm H11;clear H7;simp only [← hm] at H11;have HMn10:=hid hm;clear hm;have HYh8:=hid h8;clear h8;go_wp2_with fail;refine jA (F:=.value) H11 HD (by decide) ⟨rfl,rfl⟩ (fun _ _ h=>⟨rfl,h⟩) ?_;intro q14 t15 n13 w12 H16;clear H11;go_wp2_with fail;refine (eA H16 (by simp)).mono ?_;rintro e wz ⟨rfl,HA⟩;clear H16;go_wp2_with fail;go_ret;exact HA.out
 | false =>
  simp only [h8,bs,reduceCtorEq] at H7;refine gH H7 h8 ?_;intro w17 H18;clear H7;clear h8;go_wp2_with fail;go_ret;exact (IV H18)
end
end Go.Proofs.YtfmpphplbdojbaaGreatDoor
