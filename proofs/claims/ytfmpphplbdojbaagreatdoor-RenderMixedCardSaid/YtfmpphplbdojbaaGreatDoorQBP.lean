import Derived.Test.YtfmpphplbdojbaaGreatDoorRows
import Derived.WalkKit
import Derived.ProofKit
import Derived.OpenShut
import Derived.HandedShaped
import Derived.Lib.SmallJoins
import Derived.SizedLaws
import Derived.JoinedCond
import Derived.Deep.Slices
import Derived.Deep.Fields
import Derived.ChangeSame
import Derived.Carry
import Derived.ChangeArms
import Derived.Test.YtfmpphplbdojbaaGreatDoorQAF
import Derived.Test.YtfmpphplbdojbaaGreatDoorTie
import Derived.Test.YtfmpphplbdojbaaGreatDoorCards
import Derived.PinnedBridge
import Derived.Lib.LaidIn
import Derived.Lib.LaidU8
import Derived.Deep.DeepHandedRow
import Derived.Deep.DeepWitnessRowRef
import Derived.SevenTiedAt
import Derived.Test.YtfmpphplbdojbaaGreatDoorQAP
namespace Go.Proofs.YtfmpphplbdojbaaGreatDoor
set_option linter.all false
set_option maxHeartbeats 40000000
set_option maxRecDepth 100000
section
open Go.ChangeShapes Go.WideShapes Go.ChangeAt Go.RowKit Go.WideMaps
open Go.ChangeMaps (open_string)
section
variable {H:Type}{enc:TypeId × Value->H}{P:Program}
theorem AM (hl:laidOutB P=true) {W W':World} (hb:Below W.heap.size W W') :
  ∀ {ts:List TypeId}{vs:List Value}{ds:List (DataW H)}{ps:List MemPlace},(ts.all fun t=>P.readableRec t&&decide (t < P.types.size))=true ->
   DataW.TrodAll enc P W 0 (fun _=>true) true ts vs ds ps->(∀ x∈ps,x.block < W.heap.size)->DataW.TrodAll enc P W' 0 (fun b=>decide (b < W.heap.size)) true ts vs ds ps:=by
 intro ts
 induction ts with
 | nil =>
  intro vs ds ps _ h _;obtain⟨rfl,rfl,rfl⟩:=trodAll_nil h;exact trodAll_mk0
 | cons t ts ih =>
  intro vs ds ps ht h hlt;obtain⟨v,vs',d,ds',p,q,rfl,rfl,rfl,h1,h2⟩:=trodAll_cons h;simp only [List.all_cons,Bool.and_eq_true,decide_eq_true_eq] at ht;exact trodAll_cons_mk (Below.trod hl ht.1.1 ht.1.2 h1 hb (fun x hx=>hlt x (List.mem_append_left _ hx)))
   (ih (by simpa using ht.2) h2 (fun x hx=>hlt x (List.mem_append_right _ hx)))
theorem AV {f:Func}{s:ChangeSpec}{b4:TypeId}{W W':World}{args:Array Value}{ds gs:List (DataW H)}{before:List MemPlace}
  (hl:laidOutB P=true) (hread:(f.params.toList.all fun t=>P.readableRec t&&decide (t < P.types.size))=true)
  (hvars:s.vars=[]) (hrt:f.resultTypes=#[b4]) (hu:P.underlying b4=some .bool)
  (hfn:(s.fn H (ds++gs)).results=[.lit (.bool true)]/\(s.fn H (ds++gs)).args=ds/\(s.fn H (ds++gs)).vars=[])
  (hW:DataW.Whole enc P f.params.toList s.vars false W args.toList ds gs before) (hb:Below W.heap.size W W') :
  s.post enc P f false true false false W args (.bool true) W':=by
 have hlt:∀ p∈before,p.block < W.heap.size:=fun p hp=>hW.lt p hp
 have hW':=hW;obtain⟨p,q,hA,hV,he,_,_⟩:=hW';rw [hvars] at hV;obtain⟨rfl,rfl⟩:=trodVars_none hV;have he:before=p++[]:=he;rw [List.append_nil] at he;subst he;refine⟨ds,[],before,[],before,[],hW,?_,?_,?_,World.keptBut_mono (fun x hx=>⟨hx,by simpa using hx⟩) (hb.frame (·∈before)),fun h=>C4⟩
 ·rw [hfn.1,hrt];exact trodAll_mk1 (shut_bool hu true)
 ·rw [hfn.2.1];exact AM hl hb hread hA hlt
 ·rw [hfn.2.2,hvars];exact rfl
end
end
section
open Go.ChangeShapes Go.WideShapes Go.ChangeAt Go.RowKit Go.WideMaps Go.Joins Go.Deep Grd
section
variable {H:Type}{enc:TypeId × Value->H}{P:Program}{w:World}{base:Nat}{spare:Nat->Bool}{held:Bool}
theorem RJ {t e:TypeId}{fs:Array Field}{fuel:Nat}{cs:List Value}{x:DataW H × List MemPlace} (ht:P.underlying t=some (.slice e)) (he:P.underlying e=some (.struct fs))
  (hone:oneCellFields P fs=true) (hC:P.cellsOf e=fs.size) (h:DataW.trod enc P w base spare held fuel t cs=some x) :
  (cs=[.slice none 0 0]/\x=(.nil,[])) ∨
  ∃ (a:Addr) (len cap m:Nat) (D:Nat->DataW H) (Pl:Nat->List MemPlace),cs=[.slice (some a) len cap]/\base<=a.block/\len<=cap/\cap<=maxLen/\m=(if spare a.block then cap else len) /\
   x=(.slice ((List.range len).map D) ((List.range (m - len)).map fun j=>D (len+j)),MemPlace.row a (m*fs.size)++(List.range m).flatMap Pl) /\
   ∀ i,i < m->∃ (ys:List (DataW H × List MemPlace)) (n:Nat),D i=.agg (ys.map (·.1))/\Pl i=ys.flatMap (·.2)/\ys.length=fs.size /\
    ∀ (j:Nat) (f:Field),fs[j]?=some f->∃ (v:Value) (y:DataW H × List MemPlace),w.cell? (a.add (i*fs.size+j))=some v/\ys[j]?=some y/\DataW.trod enc P w base spare held n f.type [v]=some y:=by
 rcases open_slice ht h with h0|⟨a,len,cap,m,n,D,Pl,hcs,hb,hl,hm,hmm,hx,hi⟩
 ·exact .inl h0
 ·refine .inr ⟨a,len,cap,m,D,Pl,hcs,hb,hl,hm,hmm,by rw [hC] at hx;exact hx,fun i him=>?_⟩;obtain⟨cs',hc,ht'⟩:=hi i him;rw [hC] at hc;obtain⟨ys,n',hn',hy,hlen,hyl,hf⟩:=DataW.trod_struct he ht';obtain⟨_,hcl,hat⟩:=World.cells?_some hc;simp only [Prod.mk.injEq] at hy;refine⟨ys,n',hy.1,hy.2,hyl,fun j f hj=>?_⟩;obtain⟨ho,hk⟩:=hone_of hone j f hj;have hjl:j < fs.size:=(Ah.1 hj).1;have hcell:=hat j hjl;have hv:cs'[j]?=some (cs'[j]' Cf):=M' Cf;have h1:=hf j f hj;rw [ho,hk] at h1;have hone':(cs'.drop j).take 1=[cs'[j]' Cf]:=by
   rw [An Cf]
   rfl
  rw [hone'] at h1;have hys:ys[j]?=some (ys[j]' Cf):=M' Cf;refine⟨_,_,?_,hys,h1.trans hys⟩;rw [<- Go.Deep.add_add,hcell,hv]
end
section
variable {H:Type}{enc:TypeId × Value->H}{W:World}{sp:Nat->Bool}{held:Bool}
def ptD (H:Type) (p:Pt):DataW H:=.agg [.lit (.int .u8 p.k.toNat),.lit (.int .i64 p.n),.lit (.string p.w)]
theorem LS {α:Type} (P:Nat->α->Prop):∀ n:Nat,(∀ i,i < n->∃ p,P i p)->∃ l:List α,l.length=n/\∀ i p,l[i]?=some p->P i p
 | 0,_=>⟨[],rfl,fun i p h=>Ha⟩
 | n+1,h=>by
  obtain⟨l,hl,hp⟩:=LS P n (fun i hi=>h i Cf);obtain⟨q,hq⟩:=h n Cf;refine⟨l++[q],by simp [hl],fun i p hi=>?_⟩;by_cases hin:i < l.length
  ·rw [List.getElem?_append_left hin] at hi;exact hp i p hi
  ·rw [Au Cf] at hi;have:i - l.length=0:=by
    rcases Nat.eq_zero_or_pos (i - l.length) with e|e
    ·exact e
    ·rw [Ap Cn] at hi;cases hi
   rw [this] at hi;simp only [H',Option.some.injEq] at hi;subst hi;have:i=n:=Cf
   subst this;exact hq
theorem kR {r:Reach}{b0:Nat}{v:Value}{d:DataW H}{p:List MemPlace} (hv:Value.okWide Tryz.prog W r b0 22 v) (h:DataW.Trod enc Tryz.prog W 0 sp held 22 v d p) :
  ∃ (a:Option Addr) (l:List Pt) (cap:Nat),v=.slice a l.length cap/\l.length<=cap/\tB W a l/\(l≠[]->∃ s,d=.slice (l.map (ptD H)) s):=by
 obtain⟨a,len,cap,rfl⟩:=okWide_slice Tryz.underlying22 hv;obtain⟨fuel,hf⟩:=h;rcases RJ Tryz.underlying22 Tryz.underlying46 Ci Ci hf with ⟨hcs,_⟩|⟨a',len',cap',m,D,Pl,hcs,_,hl,_,hm,hx,hi⟩
 ·simp [Value.cells] at hcs;obtain⟨rfl,rfl,rfl⟩:=hcs;exact⟨none,[],0,rfl,C' _,.inl rfl,fun h=>absurd rfl h⟩
 ·simp [Value.cells] at hcs;obtain⟨rfl,rfl,rfl⟩:=hcs;have hml:len<=m:=by rw [hm];split <;> omega
  obtain⟨l,hll,hlp⟩:=LS (fun i (q:Pt)=>W.cell? (a'.add (i*3))=some (.int .u8 (q.k.toNat:Int))/\W.cell? (a'.add (i*3+1))=some (.int .i64 q.n)/\W.cell? (a'.add (i*3+2))=some (.string ⟨q.w.toArray⟩)/\D i=ptD H q) len (fun i hil=>by
   obtain⟨ys,n,hD,_,hyl,hff⟩:=hi i Cf;obtain⟨v0,y0,c0,e0,t0⟩:=hff 0 _ rfl;obtain⟨v1,y1,c1,e1,t1⟩:=hff 1 _ rfl;obtain⟨v2,y2,c2,e2,t2⟩:=hff 2 _ rfl;obtain⟨k,hk,rfl,wk⟩:=DataW.trod_int Tryz.underlying5 t0;obtain⟨nn,hn,rfl,_⟩:=DataW.trod_int Tryz.underlying3 t1;obtain⟨s,hs,rfl,_⟩:=DataW.trod_string Tryz.underlying9 t2;simp only [List.cons.injEq,and_true] at hk hn hs;subst hk hn hs;obtain⟨⟨w⟩⟩:=s;have hkr:0<=k/\k < 256:=by
    have h1:IntKind.u8.min=0:=rfl;have h2:IntKind.u8.max=255:=rfl;simp only [Lit.wf,Bool.and_eq_true,decide_eq_true_eq] at wk;omega
   obtain⟨kn,rfl⟩:=Aa hkr.1;have hkn:((UInt8.ofNat kn).toNat:Int)=(kn:Int):=by rw [UInt8.toNat_ofNat',Nat.mod_eq_of_lt Cf]
   refine⟨⟨UInt8.ofNat kn,nn,w⟩,by rw [hkn];exact c0,c1,c2,?_⟩;rw [hD];have hyl:ys.length=3:=hyl
   match ys,hyl,e0,e1,e2 with
   | [x0,x1,x2],_,e0,e1,e2 =>
    simp only [H',F',Option.some.injEq] at e0 e1 e2;subst e0 e1 e2;simp only [ptD,hkn,List.map_cons,List.map_nil])
  subst hll;refine⟨some a',l,cap,rfl,hl,?_,fun _=>⟨(List.range (m - l.length)).map fun j=>D (l.length+j),?_⟩⟩
  ·by_cases h0:l=[]
   ·exact .inl h0
   ·have hpos:0 < l.length:=by
     rcases l with _|_
     ·exact absurd rfl h0
     ·exact Cm
    obtain⟨c0,_,_,_⟩:=hlp 0 l[0] (M' hpos);have ha:a'.add (0*3)=a':=by simp [Addr.add]
    rw [ha] at c0;obtain⟨b,o,spt⟩:=a';have hs:spt=none:=by
     cases spt with
     | none=>rfl
     | some x =>
      simp only [World.cell?] at c0;split at c0 <;> simp at c0
    subst hs;refine .inr ⟨b,o,rfl,World.block_lt_of_cell? W _ c0,fun j q hj=>?_⟩;obtain⟨g0,g1,g2,_⟩:=hlp j q hj;have had:∀ n,(Addr.mk b o none).add n=⟨b,o+n,none⟩:=fun n=>by
     unfold Addr.add;split
     ·rename_i h;subst h;rfl
     ·exact Ct
    rw [had] at g0 g1 g2;exact⟨g0,by rw [Nat.add_assoc];exact g1,by rw [Nat.add_assoc];exact g2⟩
  ·have hx1:d=_:=congrArg Prod.fst hx;rw [hx1];have:(List.range l.length).map D=l.map (ptD H):=by
    apply List.ext_getElem?;intro j;by_cases hj:j < l.length
    ·obtain⟨_,_,_,g⟩:=hlp j l[j] (M' hj);simp [hj,g]
    ·rw [Ap Cn,Ap Cn]
   simp only [this]
end
end
section
open Go.ChangeShapes Go.WideShapes Go.ChangeAt Go.RowKit Go.WideMaps Go.Lib
theorem own:ownKnob Tryz.prog.godebug=none:=Ci
theorem NW:laidOutB Tryz.prog=true:=Ci
def uN:List (String × DataW Unit):=[("unicode/utf8.acceptRanges",Lib.acceptData),("unicode/utf8.first",Lib.firstData)]
noncomputable def YH (os:Os):World :=
 let w0:=World.holding Tryz.prog os ⟨#[],#[],[]⟩
 let put (h:Array Obj) (g:Nat) (cs:Array Value):Array Obj:=h.modify g fun
  | .cells _ t frozen=>.cells cs t frozen
  | o=>o
 let h1:=put w0.heap 1 (Lib.firstTab.map fun z=>Value.int .u8 z).toArray
 let h2:=put h1 2 ((List.range 16).flatMap fun i=>[Value.int .u8 (Lib.accLo i),Value.int .u8 (Lib.accHi i)]).toArray
 { w0 with heap:=h2 }
theorem LU (os:Os) (args:Array Value):laidMet Tryz.prog uN ((YH os).forCall (fun _ _=>0) ⟨#[],args,[]⟩).memory :=
 (LaidIn.of_run (l:=uN) [2,1] 8 Ci Ci Ci Ci).met
theorem FW {W:World} (hL:laidMet Tryz.prog uN W) (hsh:W.ShapedOpen Tryz.prog):NC W:=by
 refine⟨utf8Tabs_of_reads Tryz.lays260 ⟨Ci,Ci,Ci,Ci,Ci,Ci,Ci⟩ (Lib.laidMet.reads hL (.tail _ (.head _))) (Lib.laidMet.reads hL (.head _)),?_⟩;obtain⟨m,hm⟩:=Tryz.laysM219.s1_3 W hsh;exact⟨m,hm⟩
end
