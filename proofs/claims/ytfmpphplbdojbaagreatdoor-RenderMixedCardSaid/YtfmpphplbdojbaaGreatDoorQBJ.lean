import Derived.Test.YtfmpphplbdojbaaGreatDoorShelf
import Derived.Test.YtfmpphplbdojbaaGreatDoorQAF
import Derived.Lib.Builder
import Derived.Lib.AppendStr
import Derived.Lib.UnsafeStr
import Derived.Lib.Strings
import Derived.Lib.Slices
import Derived.Lib.Walk
import Derived.BigQuiet
import Derived.Test.YtfmpphplbdojbaaGreatDoorQAG
import Derived.Test.YtfmpphplbdojbaaGreatDoorQBD
import Derived.Test.YtfmpphplbdojbaaGreatDoorQBI
import Derived.Deep.LoopGhost
import Derived.Deep.RegionHeld
import Derived.Test.YtfmpphplbdojbaaGreatDoorQAR
import Derived.Deep.Onto
import Derived.Maps.AppendAt
namespace Go.Proofs.YtfmpphplbdojbaaGreatDoor
open Lib(hid)
set_option linter.all false
set_option maxHeartbeats 40000000
set_option maxRecDepth 100000
namespace Grd
open Go.RowKit
def ZH:Nat->List UInt8
 | 0=>[32,124,124,32]
 | 1=>[32,38,38,32]
 | 2=>[32,61,61,32,33,61,32,60,32,60,61,32,62,32,62,61,32]
 | 3=>[32,43,32,45,32,124,32,94,32]
 | _=>[32,42,32,47,32,37,32,60,60,32,62,62,32,38,32,38,94,32]
def dZ (w:List UInt8) (i:Nat):Bool:=decide (w≠[])&&!decide (0<=Lib.indexByte w 32)&&Lib.contains (ZH i) (32::(w++[32]))
def LT (w:List UInt8):Nat->Nat->Int
 | 0,_=>1
 | f+1,i=>if dZ w i then (i:Int)+1 else LT w f (i+1)
def fT (k:UInt8) (w:List UInt8):Int :=
 if (k.toNat:Int)=36∨(k.toNat:Int)=35 then 6 else if (k.toNat:Int)=37 then LT w 5 0 else 7
def TX (k:UInt8) (w:List UInt8) (nth:Int):Int :=
 if k=37 then (if nth=0 then fT k w else if nth=1 then fT k w+1 else 0)
 else if k=36∨k=35 then 6
 else if k=29∨k=30∨k=31∨k=32∨k=33∨k=34 then (if nth=0 then 7 else 0)
 else if k=61 then (if nth=2 then 7 else 0) else 0
theorem QW (w:List UInt8):∀ f i,f+i<=5->1<=LT w f i/\LT w f i<=6:=by
 intro f
 induction f with
 | zero=>intro i _;simp [LT]
 | succ f ih =>
  intro i h;rw [LT];split
  ·exact Cf
  ·exact ih (i+1) Cf
theorem lZ (k:UInt8) (w:List UInt8):1<=fT k w/\fT k w<=7:=by
 unfold fT;have:=QW w 5 0 Cf;split
 ·exact Cf
 ·split <;> omega
inductive Fo where
 | nil:Fo
 | cons (p:Pt) (kids rest:Fo):Fo
def Fo.flat:Fo->List Pt
 | .nil=>[]
 | .cons p k r=>p::(k.flat++r.flat)
def Fo.size:Fo->Nat
 | .nil=>0
 | .cons _ k r=>1+k.size+r.size
def Fo.count:Fo->Nat
 | .nil=>0
 | .cons _ _ r=>r.count+1
def Fo.good:Fo->Prop
 | .nil=>True
 | .cons p k r=>(k.count:Int)=p.n/\k.good/\r.good
theorem Fo.flat_len:∀ f:Fo,f.flat.length=f.size
 | .nil=>rfl
 | .cons p k r=>by simp [Fo.flat,Fo.size,Fo.flat_len k,Fo.flat_len r];omega
def NY:Pt:=⟨28,1,[]⟩
def gl:Fo->Pt->Nat->Nat->List (Pt × Option Nat)
 | .nil,_,_,_=>[]
 | .cons q k r,p,nth,i=>(if fT q.k q.w < TX p.k p.w nth then [(NY,none)] else [])++(q,some i)::(gl k q 0 (i+1)++gl r p (nth+1) (i+1+k.size))
def mZ (o:List (Pt × Option Nat)):List Pt:=o.map Prod.fst
def MY (fr:List Int) (x:Option Nat):Int:=match x with|none=>-1|some i=>fr.getD i 0
def jZ (fr:List Int) (o:List (Pt × Option Nat)):List Int:=o.map fun x=>MY fr x.2
theorem FU:∀ (f:Fo) (p:Pt) (nth i:Nat),(gl f p nth i).length<=2*f.size
 | .nil,_,_,_=>by simp [gl]
 | .cons q k r,p,nth,i=>by
  have h1:=FU k q 0 (i+1);have h2:=FU r p (nth+1) (i+1+k.size);simp only [gl,Fo.size,O',Ab];split <;> simp <;> omega
def eZ (q:Pt) (k:Fo):List (Pt × Option Nat):=(q,some 0)::gl k q 0 1
end Grd
namespace Grd
open Go.RowKit
def Fo.take:Nat->Fo->Fo
 | 0,_=>.nil
 | _+1,.nil=>.nil
 | n+1,.cons p k r=>.cons p k (r.take n)
def Fo.drop:Nat->Fo->Fo
 | 0,f=>f
 | _+1,.nil=>.nil
 | n+1,.cons _ _ r=>r.drop n
theorem Fo.split:∀ (n:Nat) (f:Fo),n<=f.count->f.good->f.flat=(f.take n).flat++(f.drop n).flat/\(f.take n).good/\(f.drop n).good/\(f.take n).count=n/\(f.drop n).count=f.count - n:=by
 intro n
 induction n with
 | zero=>intro f _ hg;simp [Fo.take,Fo.drop,Fo.flat,Fo.good,Fo.count,hg]
 | succ n ih =>
  intro f h hg;cases f with
  | nil=>simp [Fo.count] at h
  | cons p k r =>
   obtain⟨h1,h2,h3⟩:=hg;obtain⟨a1,a2,a3,a4,a5⟩:=ih r (by simp only [Fo.count] at h;omega) h3;refine⟨?_,⟨h1,h2,a2⟩,a3,?_,?_⟩
   ·simp only [Fo.take,Fo.drop,Fo.flat];rw [a1];simp
   ·simp [Fo.take,Fo.count,a4]
   ·simp only [Fo.drop,Fo.count];rw [a5];omega
theorem UO:∀ (l:List Pt) (i:Nat) (o st:List Nat),VB (l.map Pt.n) i=some (o,st)->∃ f:Fo,f.flat=l/\f.good/\f.count=st.length:=by
 intro l
 induction l with
 | nil=>intro i o st h;simp only [List.map_nil,VB,Option.some.injEq,Prod.mk.injEq] at h;exact⟨.nil,rfl,trivial,by rw [<- h.2];rfl⟩
 | cons p r ih =>
  intro i o st h;rw [List.map_cons,VB] at h;cases hr:VB (r.map Pt.n) (i+1) with
  | none=>rw [hr] at h;cases h
  | some x =>
   obtain⟨o1,st1⟩:=x;rw [hr] at h;simp only [] at h;split at h
   ·rename_i hk;obtain⟨f,h1,h2,h3⟩:=ih _ _ _ hr;simp only [Option.some.injEq,Prod.mk.injEq] at h;obtain⟨n,hn⟩:=Aa hk.1;obtain⟨a1,a2,a3,a4,a5⟩:=Fo.split n f Cf h2;refine⟨.cons p (f.take n) (f.drop n),?_,⟨by rw [a4,hn],a2,a3⟩,?_⟩
    ·simp only [Fo.flat];rw [<- a1,h1]
    ·rw [<- h.2,hn];simp [Fo.count,a5,h3]
   ·exact C4
theorem VP (l:List Pt) (h:DG (l.map Pt.n)=true):∃ (q:Pt) (k:Fo),l=q::k.flat/\(k.count:Int)=q.n/\k.good:=by
 unfold DG at h;cases hr:VB (l.map Pt.n) 0 with
 | none=>rw [hr] at h;cases h
 | some x =>
  obtain⟨o,st⟩:=x;rw [hr] at h;obtain⟨f,h1,h2,h3⟩:=UO l 0 o st hr;cases f with
  | nil=>simp [Fo.count] at h3;simp [<- h3] at h
  | cons q k r =>
   have hst:st.length=1:=Dc
   have hr0:r=.nil:=by
    cases r with
    | nil=>rfl
    | cons _ _ _=>simp only [Fo.count] at h3;omega
   subst hr0;obtain⟨g1,g2,_⟩:=h2;exact⟨q,k,by rw [<- h1];simp [Fo.flat],g1,g2⟩
end Grd
namespace Shp
open Grd (Pt Fo)
def pZ:Fo->Nat->List Nat
 | .nil,_=>[]
 | .cons _ k r,o=>o::pZ r (o+1+k.size)
def kF:Fo->Nat->Nat->List Nat
 | .nil,_,_=>[]
 | .cons _ k r,o,x=>if x=o then pZ k (o+1) else if x < o+1+k.size then kF k (o+1) x else kF r (o+1+k.size) x
def eF:Fo->Nat->Nat->Nat
 | .nil,_,_=>0
 | .cons _ k r,o,x=>if x=o then o+1+k.size else if x < o+1+k.size then eF k (o+1) x else eF r (o+1+k.size) x
theorem xZ:∀ (f:Fo) (o:Nat),(pZ f o).length=f.count
 | .nil,_=>rfl
 | .cons _ k r,o=>by simp [pZ,Fo.count,xZ r]
theorem BZ (d:Nat):∀ (f:Fo) (o:Nat),pZ f (o+d)=(pZ f o).map (·+d)
 | .nil,_=>rfl
 | .cons _ k r,o=>by
  simp only [pZ,List.map_cons];rw [show o+d+1+k.size=o+1+k.size+d by omega,BZ d r]
theorem MZ (d:Nat):∀ (f:Fo) (o x:Nat),kF f (o+d) (x+d)=(kF f o x).map (·+d)
 | .nil,_,_=>rfl
 | .cons _ k r,o,x=>by
  simp only [kF];rw [show o+d+1+k.size=o+1+k.size+d by omega,show o+d+1=o+1+d by omega,BZ,MZ d k,MZ d r];by_cases h:x=o
  ·rw [if_pos Cf,if_pos h]
  ·rw [if_neg Cf,if_neg h];by_cases h2:x < o+1+k.size
   ·rw [if_pos Cf,if_pos h2]
   ·rw [if_neg Cf,if_neg h2]
theorem CZ:∀ (f:Fo) (o y:Nat),y∈pZ f o->o<=y/\y < o+f.size
 | .nil,_,_,h=>C4
 | .cons _ k r,o,y,h=>by
  simp only [pZ,List.mem_cons] at h;simp only [Fo.size];rcases h with rfl|h
  ·exact Cf
  ·have:=CZ r _ _ h;omega
theorem wQ0:∀ (f:Fo) (o x y:Nat),o<=x->y∈kF f o x->x < y/\y < o+f.size
 | .nil,_,_,_,_,h=>C4
 | .cons _ k r,o,x,y,hx,h=>by
  simp only [kF] at h;simp only [Fo.size];split at h
  ·have:=CZ _ _ _ h;omega
  ·split at h
   ·have:=wQ0 k _ _ _ Cf h;omega
   ·have:=wQ0 r _ _ _ Cf h;omega
def app:Fo->Fo->Fo
 | .nil,g=>g
 | .cons p k r,g=>.cons p k (app r g)
theorem lQ0:∀ (f g:Fo),(app f g).flat=f.flat++g.flat
 | .nil,_=>rfl
 | .cons p k r,g=>by simp [app,Fo.flat,lQ0 r]
theorem rQ0:∀ (f g:Fo),(app f g).size=f.size+g.size
 | .nil,_=>by simp [app,Fo.size]
 | .cons p k r,g=>by simp [app,Fo.size,rQ0 r];omega
theorem hQ0:∀ (f g:Fo),(app f g).count=f.count+g.count
 | .nil,_=>by simp [app,Fo.count]
 | .cons p k r,g=>by simp [app,Fo.count,hQ0 r];omega
theorem qQ0:∀ (f g:Fo),f.good->g.good->(app f g).good
 | .nil,_,_,h=>h
 | .cons _ _ r,g,h,hg=>⟨h.1,h.2.1,qQ0 r g h.2.2 hg⟩
theorem iQ0:∀ (f g:Fo) (o:Nat),pZ (app f g) o=pZ f o++pZ g (o+f.size)
 | .nil,_,_=>by simp [app,pZ,Fo.size]
 | .cons _ k r,g,o=>by simp only [app,pZ,Fo.size,iQ0 r,Al];rw [show o+1+k.size+r.size=o+(1+k.size+r.size) by omega]
theorem tQ0:∀ (f g:Fo) (o x:Nat),o<=x->x < o+f.size->kF (app f g) o x=kF f o x
 | .nil,_,o,x,hx,h=>by simp only [Fo.size] at h;omega
 | .cons _ k r,g,o,x,hx,h=>by
  simp only [Fo.size] at h;simp only [app,kF];by_cases h1:x=o
  ·rw [if_pos h1,if_pos h1]
  ·rw [if_neg h1,if_neg h1];by_cases h2:x < o+1+k.size
   ·rw [if_pos h2,if_pos h2]
   ·rw [if_neg h2,if_neg h2,tQ0 r g _ _ Cf Cf]
theorem uQ0:∀ (f g:Fo) (o x:Nat),o+f.size<=x->kF (app f g) o x=kF g (o+f.size) x
 | .nil,_,_,_,_=>rfl
 | .cons _ k r,g,o,x,h=>by
  simp only [Fo.size] at h;simp only [app,kF];rw [if_neg Cf,if_neg Cf,uQ0 r g _ _ Cf];simp only [Fo.size];rw [show o+1+k.size+r.size=o+(1+k.size+r.size) by omega]
theorem YZ:∀ (f:Fo) (o x:Nat),f.good->o<=x->x < o+f.size->∃ (p:Pt) (k:Fo) (a b:List Pt),f.flat=a++(p::k.flat)++b/\a.length+o=x/\(k.count:Int)=p.n/\k.good/\x+1+k.size<=o+f.size/\eF f o x=x+1+k.size /\
  ∀ y,x<=y->y < x+1+k.size->kF f o y=kF (.cons p k .nil) x y
 | .nil,o,x,_,h1,h2=>by simp only [Fo.size] at h2;omega
 | .cons q k r,o,x,h,h1,h2=>by
  simp only [Fo.size] at h2;by_cases hx:x=o
  ·subst hx;refine⟨q,k,[],r.flat,by simp [Fo.flat],Cm,h.1,h.2.1,Hq,by simp [eF],fun y hy1 hy2=>?_⟩;simp only [kF];by_cases hy:y=x
   ·rw [if_pos hy,if_pos hy]
   ·rw [if_neg hy,if_neg hy,if_pos hy2,if_pos hy2]
  ·by_cases hk:x < o+1+k.size
   ·obtain⟨p,k',a,b,e1,e2,e3,e4,e5,e6,e7⟩:=YZ k (o+1) x h.2.1 Cf Cf;refine⟨p,k',q::a,b++r.flat,by simp [Fo.flat,e1],Cn,e3,e4,Hq,by simp only [eF];rw [if_neg hx,if_pos hk,e6],fun y hy1 hy2=>?_⟩;rw [<- e7 y hy1 hy2];simp only [kF];rw [if_neg Cf,if_pos Cf]
   ·obtain⟨p,k',a,b,e1,e2,e3,e4,e5,e6,e7⟩:=YZ r (o+1+k.size) x h.2.2 Cf Cf;refine⟨p,k',q::(k.flat++a),b,by simp [Fo.flat,e1],by simp [Fo.flat_len];omega,e3,e4,Hq,by simp only [eF];rw [if_neg hx,if_neg hk,e6],fun y hy1 hy2=>?_⟩;rw [<- e7 y hy1 hy2];simp only [kF];rw [if_neg Cf,if_neg Cf]
theorem NZ:∀ (f:Fo) (i:Nat) (r:List Int) (o st:List Nat),f.good->Grd.VB r (i+f.size)=some (o,st) ->
  ∃ oF,Grd.VB (f.flat.map Pt.n++r) i=some (oF++o,pZ f i++st)/\oF.length=f.size/\(∀ x,i<=x->x < i+f.size->oF[x - i]?=some (eF f i x)) /\
   (1<=f.count->(oF++o).getD ((pZ f i).getD (f.count - 1) 0 - i) 0=i+f.size)
 | .nil,i,r,o,st,_,h=>⟨[],by simpa [Fo.flat,pZ,Fo.size] using h,rfl,fun x h1 h2=>by simp only [Fo.size] at h2;omega,fun h=>by simp [Fo.count] at h⟩
 | .cons p k rs,i,r,o,st,hg,h=>by
  obtain⟨g1,g2,g3⟩:=hg;simp only [Fo.size] at h;obtain⟨oR,hR,lR,xR,zR⟩:=NZ rs (i+1+k.size) r o st g3 (by rw [show i+1+k.size+rs.size=i+(1+k.size+rs.size) by omega];exact h);obtain⟨oK,hK,lK,xK,zK⟩:=NZ k (i+1) (rs.flat.map Pt.n++r) _ _ g2 hR;have hlen:=xZ k (i+1);have hend:(if p.n=0 then i+1 else (oK++(oR++o)).getD ((pZ k (i+1)++(pZ rs (i+1+k.size)++st)).getD (p.n.toNat - 1) 0 - (i+1)) 0)=i+1+k.size:=by
   by_cases hz:k.count=0
   ·rw [if_pos Cf];cases k with
    | nil=>simp [Fo.size]
    | cons _ _ _=>simp [Fo.count] at hz
   ·rw [if_neg Cf];have h2:p.n.toNat=k.count:=by omega
    have h3:=zK Cf;rw [h2,show (pZ k (i+1)++(pZ rs (i+1+k.size)++st)).getD (k.count - 1) 0=(pZ k (i+1)).getD (k.count - 1) 0 by
     rw [List.getD_eq_getElem?_getD,List.getElem?_append_left Cf,List.getD_eq_getElem?_getD]]
    exact h3
  have hmain:Grd.VB ((Fo.cons p k rs).flat.map Pt.n++r) i=some ((i+1+k.size)::oK++oR++o,i::pZ rs (i+1+k.size)++st):=by
   simp only [Fo.flat,List.map_cons,List.map_append,Al,List.append_assoc];rw [Grd.VB,hK];simp only [];rw [if_pos ⟨Cf,by simp [hlen];omega⟩,hend];have h2:p.n.toNat=(pZ k (i+1)).length:=Cf
   rw [h2,List.drop_left]
  refine⟨(i+1+k.size)::oK++oR,by rw [hmain];simp [pZ],by simp [Fo.size,lK,lR];omega,fun x h1 h2=>?_,fun _=>?_⟩
  ·simp only [Fo.size] at h2;simp only [eF];by_cases hx:x=i
   ·subst hx;simp
   ·rw [if_neg hx,Al,show x - i=(x - (i+1))+1 by omega,F'];by_cases hk:x < i+1+k.size
    ·rw [if_pos hk,List.getElem?_append_left Cf];exact xK x Cf hk
    ·rw [if_neg hk,Au Cf,show x - (i+1) - oK.length=x - (i+1+k.size) by omega];exact xR x Cf Cf
  ·simp only [Fo.count,Fo.size,pZ,Nat.add_sub_cancel];by_cases hz:rs.count=0
   ·have:rs=.nil:=by
     cases rs with
     | nil=>rfl
     | cons _ _ _=>simp [Fo.count] at hz
    subst this;simp [Fo.count,Fo.size];omega
   ·have h3:=zR Cf;have hro:=xZ rs (i+1+k.size);have hmem:(pZ rs (i+1+k.size)).getD (rs.count - 1) 0∈pZ rs (i+1+k.size):=by
     rw [List.getD_eq_getElem?_getD,M' Cf];exact List.getElem_mem _
    have hin:=CZ _ _ _ hmem;have e1:(i::pZ rs (i+1+k.size)).getD rs.count 0=(pZ rs (i+1+k.size)).getD (rs.count - 1) 0:=by
     obtain⟨m,hm⟩:∃ m,rs.count=m+1:=⟨rs.count - 1,Cf⟩;rw [hm];simp
    rw [e1];generalize (pZ rs (i+1+k.size)).getD (rs.count - 1) 0=y at *;rw [show y - i=(y - (i+1+k.size))+oK.length+1 by omega];simp only [Al,List.append_assoc,List.getD_eq_getElem?_getD,F'] at h3 ⊢;rw [Au Cf,Nat.add_sub_cancel,h3];omega
theorem bQ0 {q:Pt}{k:Fo} (hc:(k.count:Int)=q.n) (hg:k.good):Grd.DG ((q::k.flat).map Pt.n)=true/\∃ o,Grd.VB ((q::k.flat).map Pt.n) 0=some (o,[0])/\o.length=k.size+1/\∀ x,x < k.size+1->o[x]?=some (eF (.cons q k .nil) 0 x):=by
 obtain⟨oF,h1,h2,h3,_⟩:=NZ (.cons q k .nil) 0 [] [] [] ⟨hc,hg,trivial⟩ rfl;have e:(Fo.cons q k .nil).flat.map Pt.n++[]=(q::k.flat).map Pt.n:=by simp [Fo.flat]
 rw [e] at h1;simp only [pZ,List.append_nil] at h1;simp only [Fo.size] at h2 h3;refine⟨by unfold Grd.DG;rw [h1];rfl,oF,h1,Cf,fun x hx=>?_⟩;have:=h3 x Cf Cf;simpa using this
end Shp
namespace Rnd
open Go.RowKit
variable {w w':World}
def sJ (v:Value):List Nat:=match v.ownBlock with|some b=>[b]|none=>[]
structure Wr (B b:Nat) (lv rv ev:Value) (v:Value) (bs:List UInt8) (w:World):Prop where
 lo:B<=b
 blk:∃ p,(p=.pointer none∨p=.pointer (some ⟨b,0,none⟩))/\w.heap[b]?=some (.cells #[p,v,lv,rv,ev] 78 (0,0))
 own:w.ownsRow B 5 1 v bs.length (Lib.byteCells bs)
 ne:v.ownBlock≠some b
variable {B b:Nat}{lv rv ev v:Value}{bs:List UInt8}
theorem Wr.lt (h:Wr B b lv rv ev v bs w):b < w.heap.size:=by
 obtain⟨p,_,hb⟩:=h.blk;exact RA hb
theorem Tryz.infoWr:(Tryz.prog.info? 76).map (·.size)=some 2:=Ci
theorem Tryz.liesWr:liesAt Tryz.prog Tryz.prog.depth 78 (5 / Tryz.prog.cellsOf 78) 0 76 1=true:=Ci
theorem Tryz.infoBy:(Tryz.prog.info? 5).map (fun i=>(i.zero,i.size,i.bytes))=some (some (.int .u8 0),1,1):=Ci
theorem xQ1 (h0:w.cell? ⟨b,0,none⟩=some (.pointer (some ⟨b,0,none⟩))) :
  Calls Tryz.prog 127 #[.pointer (some ⟨b,0,none⟩)] w fun e w'=>e=.returned (.tuple #[])/\w'=w:=by
 obtain⟨j,hj,_⟩:=Option.map_eq_some_iff.1 Tryz.infoWr;go_enter Tryz.func127,Tryz.ntmps127;go_wp2_with fail;rw [Lib.run_neq_ptr_same w _ Tryz.underlying74 hj];go_wp2_with fail;go_end0;exact⟨rfl,rfl⟩
theorem uQ1 (h0:w.cell? ⟨b,0,none⟩=some (.pointer none)) (hsh:w.shape? b=some (78,5)) (hfz:w.frozen? ⟨b,0,none⟩=false) :
  Calls Tryz.prog 127 #[.pointer (some ⟨b,0,none⟩)] w fun e w'=>e=.returned (.tuple #[])/\w'=w.setCell ⟨b,0,none⟩ (.pointer (some ⟨b,0,none⟩)):=by
 obtain⟨j,hj,hjs⟩:=Option.map_eq_some_iff.1 Tryz.infoWr;go_enter Tryz.func127,Tryz.ntmps127;go_wp2_with fail;rw [Lib.run_to_unsafe w ⟨b,0,none⟩ Tryz.underlying74 Tryz.underlying183 hj (by rw [hjs];decide) hsh (Nat.zero_lt_succ 4)];simp only [Result.andThen];rw [Oper.upon_value];go_wp2_with fail;rw [run_callFunc_extern Tryz.func175 Ci Ci Ci (e:=Extern.AbiNoEscape.same) Ci];rw [Lib.run_noEscape];simp only [Result.andThen];rw [Oper.upon_value];go_wp2_with fail;rw [Lib.run_from_unsafe w ⟨b,0,none⟩ Tryz.underlying183 Tryz.underlying74 hj hsh Tryz.liesWr];simp only [Result.andThen];rw [Oper.upon_value];go_wp2_with fail;go_end0;exact⟨rfl,rfl⟩
theorem zQ1 (H:Wr B b lv rv ev v bs w) :
  Calls Tryz.prog 127 #[.pointer (some ⟨b,0,none⟩)] w fun e w'=>e=.returned (.tuple #[])/\w'.heap[b]?=some (.cells #[.pointer (some ⟨b,0,none⟩),v,lv,rv,ev] 78 (0,0))/\w'.ownsRow B 5 1 v bs.length (Lib.byteCells bs)/\Fr [b] w w':=by
 obtain⟨p,hp,hb⟩:=H.blk;rcases hp with rfl|rfl
 ·refine (uQ1 (w:=w) (b:=b) Dm (by unfold World.shape?;rw [hb];rfl) (by unfold World.frozen?;rw [hb];rfl)).mono ?_;rintro e w' ⟨rfl,rfl⟩;have hf:Fr [b] w (w.setCell ⟨b,0,none⟩ (.pointer (some ⟨b,0,none⟩))):=NA b 0 w _;refine⟨rfl,?_,qD H.own hf (by intro x hx;simp at hx;subst hx;exact H.ne),hf⟩;rw [heap_setCell_same w b 0 _ _ _ hb];rfl
 ·refine (xQ1 (w:=w) (b:=b) Dm).mono ?_;rintro e w' ⟨rfl,rfl⟩;exact⟨rfl,hb,H.own,Fr.refl _ _⟩
theorem DQ1 {X:List Nat}{w w':World} (h:Fr X w w') (hB:B<=w.heap.size) (hX:∀ x∈X,B<=x):Below B w w':=⟨h.os,h.tape,h.output,h.size,fun k hk=>h.block k Cf (fun hx=>by have:=hX k hx;omega)⟩
def XQ0 (b:Nat) (w w':World):Prop:=∀ (k:Nat) (cs:Array Value) (t:TypeId) (fr:Nat × Nat),w.heap[k]?=some (.cells cs t fr)->k≠b->t≠5->w'.heap[k]?=some (.cells cs t fr)
theorem XQ0.refl (b:Nat) (w:World):XQ0 b w w:=fun _ _ _ _ h _ _=>h
theorem XQ0.trans {b:Nat}{w w1 w2:World} (h:XQ0 b w w1) (k:XQ0 b w1 w2):XQ0 b w w2:=fun x cs t fr hx hb ht=>k x cs t fr (h x cs t fr hx hb ht) hb ht
theorem XQ0.of_below {b:Nat}{w w':World} (h:Below w.heap.size w w'):XQ0 b w w':=fun x cs t fr hx _ _=>(h.block x (RA hx)).trans hx
def Wd (B b:Nat) (lv rv ev:Value) (bs':List UInt8) (w w':World):Prop:=(∃ v',Wr B b lv rv ev v' bs' w')/\Below B w w'/\XQ0 b w w'
theorem vQ1 (s:List UInt8):Lib.strCells ⟨s.toArray⟩=Lib.byteCells s:=by simp [Lib.strCells,Lib.byteCells]
theorem oQ1 (a b:List UInt8):Lib.byteCells (a++b)=Lib.byteCells a++Lib.byteCells b:=by simp [Lib.byteCells]
theorem AQ1 (s:List UInt8) (H:Wr B b lv rv ev v bs w) (hlen:bs.length+s.length<=140737488355328) :
  Calls Tryz.prog 83 #[.pointer (some ⟨b,0,none⟩),.string ⟨s.toArray⟩] w fun e w'=>(∃ x y,e=.returned (.tuple #[x,y]))/\Wd B b lv rv ev (bs++s) w w':=by
 obtain⟨i0,hi,hz0,hz1,hz2⟩:=info_parts Tryz.infoBy;have HC:=hid (zQ1 H);have hBw:B<=w.heap.size:=by have:=H.lo;have:=H.lt;omega
 have hss:(⟨s.toArray⟩:ByteArray).size=s.length:=Dx
 have hne:=H.ne;have hlo:=H.lo;have hbw:=H.lt;clear H;go_enter Tryz.func83,Tryz.ntmps83;go_wp2_with fail;refine HC.out.mono ?_;rintro e w1 ⟨rfl,hb,hown,hf⟩;have hsz:=hf.size;have c1:w1.cell? ⟨b,1,none⟩=some v:=Dm
 have HB:=hid hb;have HF:=hid hf;have HO:=hid hown;clear hb hf HC;go_wp2_with (at_builtin;refine Lib.wpList_append_own_string _ rfl _ _ 40 9 rfl B 5 i0 Tryz.underlying40 Tryz.underlying9 hi hz0 hz1 hz2 _ _ _ rfl hown ⟨s.toArray⟩ rfl ?c3 ?c4 ?c5 ?_)
 case c3=>rw [hss];unfold maxLen;omega
 case c4=>rw [hss];omega
 case c5=>omega
 intro v' w2 hown' hgrow _;have hb2:w2.heap[b]?=some (.cells #[.pointer (some ⟨b,0,none⟩),v,lv,rv,ev] 78 (0,0)):=by
  rw [hgrow.block b Cf (fun e=>hne e.symm)];exact HB.out
 have d1:w2.cell? ⟨b,1,none⟩=some v:=by unfold World.cell?;rw [hb2];rfl
 have f1:w2.frozen? ⟨b,1,none⟩=false:=by unfold World.frozen?;rw [hb2];rfl
 have hne2:v'.ownBlock≠some b:=Lib.ownBlock_ne hown' hb2 Ch;have HBF:Hid (Below B w w2/\XQ0 b w w2):=hid ⟨(DQ1 HF.out hBw (by intro x hx;simp at hx;omega)).grown hgrow Cf (fun k hk=>(HO.out.lt k hk).1),fun k cs t fr hk hkb ht=>by
  have h1:=HF.out.at_ (by simpa using hkb) hk;rw [hgrow.block k (RA h1) (fun e=>by
   rcases HO.out.2 with ⟨rfl,_⟩|⟨g,cap,cur,rfl,_,hg,_⟩
   ·simp [Value.ownBlock] at e
   ·simp only [Value.ownBlock,Option.some.injEq] at e;subst e;rw [h1] at hg;cases hg;exact ht rfl)]
  exact h1⟩
 have HB2:=hid hb2;clear hgrow HB HF HO hb2;obtain⟨va,vc,rfl⟩:=Grd.ID hown';go_wp2_with fail;go_ret2;have hf2:=NA b 1 w2 (.slice va (bs.length+s.length) vc);refine⟨⟨_,_,rfl⟩,⟨_,hlo,⟨_,.inr rfl,?_⟩,?_,hne2⟩,HBF.out.1.trans (DQ1 hf2 (by have:=HBF.out.1.size;omega) (by intro x hx;simp at hx;omega)),HBF.out.2.trans (fun k cs t fr hk hkb _=>hf2.at_ (by simpa using hkb) hk)⟩
 ·rw [heap_setCell_same w2 b 1 _ _ _ HB2.out];rfl
 ·have:=qD hown' hf2 (by intro x hx;simp at hx;subst hx;exact hne2);rw [vQ1,<- oQ1] at this;rw [O'];exact this
theorem PQ1 (H:Wr B b lv rv ev v bs w):Calls Tryz.prog 37 #[.pointer (some ⟨b,0,none⟩)] w fun e w'=>e=.returned (.int .i64 (bs.length:Int))/\w'=w:=by
 obtain⟨p,_,hb⟩:=H.blk;have c1:w.cell? ⟨b,1,none⟩=some v:=Dm
 obtain⟨va,vc,rfl⟩:=Grd.ID H.own;clear H hb;go_enter Tryz.func37,Tryz.ntmps37;go_wp2_with fail;go_ret;exact⟨rfl,rfl⟩
theorem tQ1 (H:Wr B b lv rv ev v bs w) (h0:bs≠[]):Calls Tryz.prog 38 #[.pointer (some ⟨b,0,none⟩)] w fun e w'=>e=.returned (.string ⟨bs.toArray⟩)/\Below B w w':=by
 obtain⟨p,_,hb⟩:=H.blk;have hown:=H.own;have hl0:bs.length≠0:=Hx
 obtain⟨g,cap,cur,rfl,hbg,hg,hnc,hcm,hcs,htake⟩:∃ g cap cur,v=.slice (some ⟨g,0,none⟩) bs.length cap/\B<=g/\w.heap[g]?=some (.cells cur 5 (0,0))/\bs.length<=cap/\cap<=maxLen/\cur.size=cap*1/\cur.toList.take (bs.length*1)=Lib.byteCells bs:=by
  rcases hown.2 with ⟨_,hz⟩|⟨g,cap,cur,hv,r⟩
  ·exact absurd hz hl0
  ·exact⟨g,cap,cur,hv,r⟩
 have c1:w.drew.cell? ⟨b,1,none⟩=some (.slice (some ⟨g,0,none⟩) bs.length cap):=by
  have:w.drew.heap[b]?=some (.cells #[p,.slice (some ⟨g,0,none⟩) bs.length cap,lv,rv,ev] 78 (0,0)):=hb;unfold World.cell?;rw [this];rfl
 have hSD:(Builtin.unsafeSliceData_ #[40] 104 #[.slice (some ⟨g,0,none⟩) bs.length cap]).run Tryz.prog w.drew=.ok (.pointer (some ⟨g,0,none⟩)) w.drew :=
  Lib.run_unsafeSliceData_row _ _ _ _ _ _ Cf
 have hUS:(Builtin.unsafeString_ #[104,3] 9 #[.pointer (some ⟨g,0,none⟩),.int .i64 bs.length]).run Tryz.prog w.drew=.ok (.string ⟨bs.toArray⟩) (w.drew.freeze ⟨g,0,none⟩ bs.length):=by
  refine Lib.run_unsafeString_row w.drew 104 3 9 5 Tryz.underlying104 Ci g cur.size Eg bs h0 Cf (by unfold maxLen at hcm;omega) ?_;intro j x hx;have:=hown.cells (g:=g) rfl j (.int .u8 x.toNat) (by simp [Lib.byteCells,hx]);exact this
 clear H hb hown hg hcs htake hnc hcm;go_enter Tryz.func38,Tryz.ntmps38;go_wp2_with fail;go_region
 all_goals (go_wp2_with fail;go_ret;exact⟨rfl,Lib.below_freeze (Below.drew (J' B w)) (p:=⟨g,0,none⟩) hbg _⟩)
theorem sQ1 (H:Wr B b lv rv ev v [] w):Calls Tryz.prog 38 #[.pointer (some ⟨b,0,none⟩)] w fun e w'=>e=.returned (.string ⟨#[]⟩)/\Below B w w':=by
 obtain⟨p,_,hb⟩:=H.blk;have hown:=H.own;have hBw:B<=w.heap.size:=by have:=H.lo;have:=H.lt;omega
 have hlt:=H.lt;have hUS:∀ (W:World) (q:Option Addr),(Builtin.unsafeString_ #[104,3] 9 #[.pointer q,.int .i64 0]).run Tryz.prog W=.ok (.string .empty) W:=fun W q=>Lib.run_unsafeString_none W _ _ _ q
 have c1:w.drew.cell? ⟨b,1,none⟩=some v:=by
  have:w.drew.heap[b]?=some (.cells #[p,v,lv,rv,ev] 78 (0,0)):=hb;unfold World.cell?;rw [this];rfl
 clear H;rcases hown.2 with ⟨rfl,_⟩|⟨g,cap,cur,rfl,hbg,hg,_,_,_,_⟩
 ·have hSD:(Builtin.unsafeSliceData_ #[40] 104 #[.slice none 0 0]).run Tryz.prog w.drew=.ok (.pointer none) w.drew:=rfl;clear hown hb;go_enter Tryz.func38,Tryz.ntmps38;go_wp2_with fail;go_region
  all_goals exact Cc
 ·by_cases hc0:cap=0
  ·subst hc0;have hSD:(Builtin.unsafeSliceData_ #[40] 104 #[.slice (some ⟨g,0,none⟩) 0 0]).run Tryz.prog w.drew=.ok (.pointer (some ⟨w.drew.heap.size,0,none⟩)) (w.drew.alloc (.view ⟨g,0,none⟩ 5)) :=
    Lib.run_unsafeSliceData_zero w.drew _ _ 5 Tryz.underlying104 ⟨g,0,none⟩ 0 (5,cur.size) Eg
   have c2:(w.drew.alloc (.view ⟨g,0,none⟩ 5)).cell? ⟨b,1,none⟩=some (.slice (some ⟨g,0,none⟩) 0 0):=by
    have:(w.drew.alloc (.view ⟨g,0,none⟩ 5)).heap[b]?=_:=(Lib.alloc_old w.drew _ b hlt).trans hb;unfold World.cell?;rw [this];rfl
   have c3:(w.alloc (.view ⟨g,0,none⟩ 5)).drew.cell? ⟨b,1,none⟩=some (.slice (some ⟨g,0,none⟩) 0 0):=c2;have c0:w.cell? ⟨b,1,none⟩=some (.slice (some ⟨g,0,none⟩) 0 0):=c1;clear hown hb hg;go_enter Tryz.func38,Tryz.ntmps38;go_wp2_with fail;go_region
   all_goals (go_wp2_with fail;go_ret;exact⟨rfl,(Below.drew (J' B w)).alloc hBw _⟩)
  ·have hSD:(Builtin.unsafeSliceData_ #[40] 104 #[.slice (some ⟨g,0,none⟩) 0 cap]).run Tryz.prog w.drew=.ok (.pointer (some ⟨g,0,none⟩)) w.drew :=
    Lib.run_unsafeSliceData_row _ _ _ _ _ _ hc0
   clear hc0 hown hb hg;go_enter Tryz.func38,Tryz.ntmps38;go_wp2_with fail;go_region
   all_goals exact Cc
theorem wQ1 (H:Wr B b lv rv ev v bs w):Calls Tryz.prog 38 #[.pointer (some ⟨b,0,none⟩)] w fun e w'=>e=.returned (.string ⟨bs.toArray⟩)/\Below B w w':=by
 by_cases h0:bs=[]
 ·subst h0;exact sQ1 H
 ·exact tQ1 H h0
end Rnd
namespace Rnd
open Go.RowKit
open Grd (Pt Fo)
abbrev Tx:=UInt8 × List UInt8
def tx (ts:List Tx) (i:Nat):List UInt8:=((ts[i]?).map Prod.snd).getD []
def tki (ts:List Tx) (i:Nat):UInt8:=((ts[i]?).map Prod.fst).getD 0
def WQ0 (a t b:List UInt8):List UInt8:=if t=[] then [] else a++(t++b)
def bQ1 (ts:List Tx) (i:Nat):List UInt8:=tx ts i++(if tki ts i=27 then [32] else [])
def BQ1 (m:List UInt8) (ts:List Tx):List UInt8:=ts.flatMap fun y=>m++y.2
def cQ1 (m:List UInt8):List Tx->List UInt8
 | []=>[]
 | x::r=>x.2++BQ1 m r
def fQ1 (ts:List Tx):List UInt8:=ts.flatMap fun x=>x.2++[10]
def jQ1 (ts:List Tx) (ss:List (List UInt8)) (n:Nat):List UInt8:=ss.getD n []++(if n < ts.length/\n+1 < ss.length then tx ts n else [])
def xE (ts:List Tx) (ss:List (List UInt8)):List UInt8:=(List.range ss.length).flatMap (jQ1 ts ss)
def nlT:List Tx->List UInt8|[]=>[]|_::_=>[10]
def VQ0 (w a b:List UInt8):List UInt8:=if w=[] then [] else a++(w++b)
def TQ0 (k:Nat) (w:List UInt8) (ts:List Tx):List UInt8 :=
 match k with
 | 1=>xE ts [[112,97,99,107,97,103,101,32],[10],[],[]]
 | 2=>fQ1 ts
 | 13=>fQ1 ts
 | 3=>xE ts [w++[32],[]]
 | 4=>w++([32,40]++(nlT ts++(fQ1 ts++[41])))
 | 5=>VQ0 w [] [32]++(WQ0 [] (tx ts 0) [32]++tx ts 1)
 | 6=>tx ts 0++(WQ0 [32] (tx ts 1) []++WQ0 [32,61,32] (tx ts 2) [])
 | 7=>cQ1 [] (ts.take 2)++([32]++(VQ0 w [] [32]++tx ts 2))
 | 8=>[102,117,110,99,32]++(WQ0 [] (tx ts 0) [32]++(cQ1 [] ((ts.take 4).drop 1)++WQ0 [32] (tx ts 4) []))
 | 9=>tx ts 0++WQ0 [32] (tx ts 1) []
 | 22=>tx ts 0++WQ0 [32] (tx ts 1) []
 | 17=>tx ts 0++WQ0 [32] (tx ts 1) []
 | 10=>cQ1 [44,32] ts
 | 11=>cQ1 [44,32] ts
 | 12=>cQ1 [44,32] ts
 | 14=>[40]++(cQ1 [44,32] ts++[41])
 | 15=>WQ0 [] (tx ts 0) [32]++(w++tx ts 1)
 | 16=>[91]++(cQ1 [44,32] ts++[93])
 | 18=>cQ1 [32,124,32] ts
 | 19=>xE ts [[126],[]]
 | 20=>cQ1 [59,32] ts
 | 23=>cQ1 [59,32] ts
 | 21=>tx ts 0++(WQ0 [32] (tx ts 1) []++WQ0 [32] (tx ts 2) [])
 | 24=>cQ1 [] ts
 | 25=>cQ1 [] ts
 | 26=>w
 | 27=>w
 | 28=>xE ts [[40],[41]]
 | 29=>bQ1 ts 0++([46]++tx ts 1)
 | 30=>xE ts [[],[91],[93]]
 | 31=>xE (ts.take 3) [[],[91],[58],[]]++(WQ0 [58] (tx ts 3) []++[93])
 | 32=>bQ1 ts 0++xE (ts.drop 1) [[46,40],[41]]
 | 33=>bQ1 ts 0++[46,40,116,121,112,101,41]
 | 34=>xE ts [[],[40],[]]++(VQ0 w [32] []++[41])
 | 35=>xE ts [[42],[]]
 | 36=>w++((if tki ts 0=36 then [32] else [])++tx ts 0)
 | 37=>xE ts [[],32::(w++[32]),[]]
 | 38=>xE ts [[],[58,32],[]]
 | 39=>xE ts [[],[123],[125]]
 | 40=>xE ts [[102,117,110,99],[32],[]]
 | 41=>xE ts [[91],[93],[]]
 | 42=>xE ts [[91,46,46,46,93],[]]
 | 43=>xE ts [[91,93],[]]
 | 44=>xE ts [[109,97,112,91],[93],[]]
 | 45=>xE ts [w++[32],[]]
 | 46=>xE ts [[102,117,110,99],[]]
 | 47=>xE ts [[115,116,114,117,99,116,123],[125]]
 | 48=>xE ts [[105,110,116,101,114,102,97,99,101,123],[125]]
 | 49=>[59]
 | 50=>tx ts 0
 | 68=>tx ts 0
 | 51=>xE ts [[],[32,60,45,32],[]]
 | 52=>xE ts [[],w]
 | 53=>xE ts [[],32::(w++[32]),[]]
 | 54=>xE ts [[103,111,32],[]]
 | 55=>xE ts [[100,101,102,101,114,32],[]]
 | 56=>[114,101,116,117,114,110]++WQ0 [32] (tx ts 0) []
 | 57=>w++WQ0 [32] (tx ts 0) []
 | 58=>[123]++(WQ0 [10] (tx ts 0) []++[125])
 | 62=>(if tx ts 0=[] then [100,101,102,97,117,108,116,58]++[10] else [99,97,115,101,32]++(tx ts 0++([58]++[10])))++tx ts 1
 | 64=>(if tx ts 0=[] then [100,101,102,97,117,108,116,58]++[10] else [99,97,115,101,32]++(tx ts 0++([58]++[10])))++tx ts 1
 | 63=>xE ts [[115,101,108,101,99,116,32,123]++[10],[125]]
 | 67=>xE ts [[],[58,32],[]]
 | 59=>[105,102,32]++(WQ0 [] (tx ts 0) [59,32]++(xE ((ts.take 3).drop 1) [[],[32],[]]++WQ0 [32,101,108,115,101,32] (tx ts 3) []))
 | 60=>[115,119,105,116,99,104,32]++(WQ0 [] (tx ts 0) [59,32]++(WQ0 [] (tx ts 1) [32]++xE (ts.drop 2) [[123]++[10],[125]]))
 | 61=>[115,119,105,116,99,104,32]++(WQ0 [] (tx ts 0) [59,32]++(WQ0 [] (tx ts 1) [32,58,61,32]++(bQ1 ts 2++xE (ts.drop 3) [[46,40,116,121,112,101,41,32,123]++[10],[125]])))
 | 65=>[102,111,114,32]++((if tx ts 0=[]/\tx ts 2=[] then WQ0 [] (tx ts 1) [32] else tx ts 0++([59,32]++(tx ts 1++[59,32])))++(VQ0 (tx ts 2) [] [32]++tx ts 3))
 | 66=>[102,111,114,32]++(VQ0 w (tx ts 0++[32]) [32]++xE (ts.drop 1) [[114,97,110,103,101,32],[32],[]])
 | _=>[]
def txF (raw:Nat->List UInt8):Fo->Nat->List Tx
 | .nil,_=>[]
 | .cons p k r,o=>(p.k,if raw o=[] then TQ0 p.k.toNat p.w (txF raw k (o+1)) else raw o)::txF raw r (o+1+k.size)
theorem KQ1 (raw:Nat->List UInt8):∀ (f:Fo) (o:Nat),(txF raw f o).length=f.count
 | .nil,_=>rfl
 | .cons _ _ r,o=>by simp [txF,Fo.count,KQ1 raw r]
variable {w w':World}{B b:Nat}{lv rv ev:Value}
structure Ev (B:Nat) (l:List Pt) (raw:Nat->List UInt8) (E:List Nat) (lv rv ev:Value) (w:World):Prop where
 few:l.length<=100000000
 parts:∃ lb lo cap,lv=.slice (some ⟨lb,lo,none⟩) l.length cap/\lb < B/\∀ j p,l[j]?=some p ->
  w.cell? ⟨lb,lo+j*3,none⟩=some (.int .u8 (p.k.toNat:Int))/\w.cell? ⟨lb,lo+j*3+1,none⟩=some (.int .i64 p.n)/\w.cell? ⟨lb,lo+j*3+2,none⟩=some (.string ⟨p.w.toArray⟩)
 ends:∃ eb cap,ev=.slice (some ⟨eb,0,none⟩) l.length cap/\eb < B/\E.length=l.length/\∀ j e,E[j]?=some e->w.cell? ⟨eb,j,none⟩=some (.int .i64 ((e:Nat):Int))
 raws:(rv=.slice none 0 0/\∀ j,raw j=[])∨∃ rb ro cap,rv=.slice (some ⟨rb,ro,none⟩) l.length cap/\rb < B/\∀ j,j < l.length->w.cell? ⟨rb,ro+j,none⟩=some (.string ⟨(raw j).toArray⟩)
theorem Ev.below {l:List Pt}{raw:Nat->List UInt8}{E:List Nat} (h:Ev B l raw E lv rv ev w) (hb:Below B w w'):Ev B l raw E lv rv ev w':=by
 obtain⟨h0,⟨lb,lo,cap,h1,h2,h3⟩,⟨eb,ec,h4,h5,h6,h7⟩,h8⟩:=h;refine⟨h0,⟨lb,lo,cap,h1,h2,fun j p hj=>?_⟩,⟨eb,ec,h4,h5,h6,fun j e hj=>?_⟩,?_⟩
 ·obtain⟨a,c,d⟩:=h3 j p hj;exact⟨by rw [hb.cell (p:=⟨lb,lo+j*3,none⟩) h2];exact a,by rw [hb.cell (p:=⟨lb,lo+j*3+1,none⟩) h2];exact c,by rw [hb.cell (p:=⟨lb,lo+j*3+2,none⟩) h2];exact d⟩
 ·rw [hb.cell (p:=⟨eb,j,none⟩) h5];exact h7 j e hj
 ·rcases h8 with h8|⟨rb,ro,rc,h8,h9,h10⟩
  ·exact .inl h8
  ·exact .inr ⟨rb,ro,rc,h8,h9,fun j hj=>by rw [hb.cell (p:=⟨rb,ro+j,none⟩) h9];exact h10 j hj⟩
def St (B b:Nat) (l:List Pt) (raw:Nat->List UInt8) (E:List Nat) (lv rv ev:Value) (bs:List UInt8) (w:World):Prop:=(∃ v,Wr B b lv rv ev v bs w)/\Ev B l raw E lv rv ev w
def Stp (B b:Nat) (l:List Pt) (raw:Nat->List UInt8) (E:List Nat) (lv rv ev:Value) (bs:List UInt8) (w w':World):Prop:=St B b l raw E lv rv ev bs w'/\Below B w w'/\XQ0 b w w'
variable {l:List Pt}{raw:Nat->List UInt8}{E:List Nat}{bs t:List UInt8}
theorem St.lo (h:St B b l raw E lv rv ev bs w):B<=b/\b < w.heap.size:=by
 obtain⟨⟨v,h⟩,_⟩:=h;exact⟨h.lo,h.lt⟩
theorem St.later (h:St B b l raw E lv rv ev bs w) (hb:Below w.heap.size w w'):St B b l raw E lv rv ev bs w':=by
 obtain⟨⟨v,h⟩,he⟩:=h;have hlt:=h.lt;have hlo:=h.lo;obtain⟨p,hp,hk⟩:=h.blk;exact⟨⟨v,h.lo,⟨p,hp,(hb.block _ hlt).trans hk⟩,qD h.own (Fr.below (X:=[]) hb) Cm,h.ne⟩,he.below (hb.mono Cf)⟩
theorem Stp.refl (h:St B b l raw E lv rv ev bs w):Stp B b l raw E lv rv ev bs w w:=⟨h,J' _ _,XQ0.refl _ _⟩
theorem Stp.then {w1 w2:World}{bs':List UInt8} (h:Stp B b l raw E lv rv ev bs w w1) (k:Stp B b l raw E lv rv ev bs' w1 w2):Stp B b l raw E lv rv ev bs' w w2:=⟨k.1,h.2.1.trans k.2.1,h.2.2.trans k.2.2⟩
theorem Stp.ahead {w1 w2:World}{bs':List UInt8} (h:St B b l raw E lv rv ev bs w) (hb:Below w.heap.size w w1) (k:Stp B b l raw E lv rv ev bs' w1 w2):Stp B b l raw E lv rv ev bs' w w2 :=
 ⟨k.1,(hb.mono (by have:=h.lo;omega)).trans k.2.1,(XQ0.of_below hb).trans k.2.2⟩
theorem Ev.mono {B':Nat} (h:Ev B l raw E lv rv ev w) (hB:B<=B'):Ev B' l raw E lv rv ev w:=by
 obtain⟨h0,⟨lb,lo,cap,h1,h2,h3⟩,⟨eb,ec,h4,h5,h6,h7⟩,h8⟩:=h;refine⟨h0,⟨lb,lo,cap,h1,Cf,h3⟩,⟨eb,ec,h4,Cf,h6,h7⟩,?_⟩;rcases h8 with h8|⟨rb,ro,rc,h8,h9,h10⟩
 ·exact .inl h8
 ·exact .inr ⟨rb,ro,rc,h8,Cf,h10⟩
def lQ1 (l:List Pt) (raw:Nat->List UInt8) (E:List Nat) (lv rv ev:Value) (c:Nat) (t:List UInt8):Prop :=
 ∀ (B b:Nat) (bs:List UInt8) (w:World),St B b l raw E lv rv ev bs w->bs.length+t.length<=1099511627776 ->
  Calls Tryz.prog 36 #[.pointer (some ⟨b,0,none⟩),.int .i64 (c:Int)] w fun e w'=>e=.returned (.tuple #[])/\Stp B b l raw E lv rv ev (bs++t) w w'
end Rnd
namespace Rnd
open Go.RowKit
open Grd (Pt Fo)
variable {w w':World}{B b:Nat}{lv rv ev:Value}{l:List Pt}{raw:Nat->List UInt8}{E:List Nat}{bs t:List UInt8}
def aQ1 (s:List UInt8):Value:=.string ⟨s.toArray⟩
theorem EQ1 (s:List UInt8) (H:St B b l raw E lv rv ev bs w) (hn:bs.length+s.length<=1099511627776) :
  Calls Tryz.prog 83 #[.pointer (some ⟨b,0,none⟩),.string ⟨s.toArray⟩] w fun e w'=>(∃ x y,e=.returned (.tuple #[x,y]))/\Stp B b l raw E lv rv ev (bs++s) w w':=by
 obtain⟨⟨v,h⟩,he⟩:=H;refine (AQ1 s h Cf).mono ?_;rintro e w' ⟨he1,hw,hb,hk⟩;exact⟨he1,⟨hw,he.below hb⟩,hb,hk⟩
theorem JQ1 (sb cap:Nat) (ss:List (List UInt8)) (H:St B b l raw E lv rv ev bs w) (hs:w.heap[sb]?=some (.cells (ss.map aQ1).toArray 9 (0,0))) (hsb:sb≠b) (hn:bs.length+ss.flatten.length<=1099511627776) (hc:ss.length<=1000) :
  Calls Tryz.prog 51 #[.pointer (some ⟨b,0,none⟩),.slice (some ⟨sb,0,none⟩) ss.length cap] w fun e w'=>e=.returned (.tuple #[])/\Stp B b l raw E lv rv ev (bs++ss.flatten) w w':=by
 have HH:=hid H;have HS:=hid hs;have HN:=hid hn;obtain⟨n,hnn⟩:∃ n,n=ss.length:=⟨_,rfl⟩;rw [<- hnn] at hc ⊢;have HNN:=hid hnn;clear H hs hn hnn;go_enter Tryz.func51,Tryz.ntmps51;go_wp2_with fail
 go_loopw [5,8] (fun v5 v8 wr=>∃ j:Nat,v8=.int .i64 (j:Int)/\j<=n/\Stp B b l raw E lv rv ev (bs++(ss.take j).flatten) w wr) (fun _ v _=>((n:Int) - intOf v).toNat)
 case atStart=>exact⟨0,rfl,Cf,by simpa using Stp.refl HH.out⟩
 case round =>
  obtain⟨j,rfl,hj,hst⟩:=hrel;have HST:=hid hst;clear hst;by_cases hlt:j < n
  ·have hjs:j < ss.length:=by have:=HNN.out;omega
   obtain⟨s,hx⟩:∃ s,ss[j]?=some s:=⟨_,M' hjs⟩;have hblk:=HST.out.2.2 sb _ _ _ HS.out hsb Ch;have c1:wr.cell? ⟨sb,j,none⟩=some (.string ⟨s.toArray⟩):=by
    unfold World.cell?;rw [hblk];simp [aQ1,hx]
   have hsplit:ss.take (j+1)=ss.take j++[s]:=by rw [List.take_add_one,hx];rfl
   have hlen:(bs++(ss.take j).flatten).length+s.length<=1099511627776:=by
    have h1:ss=ss.take (j+1)++ss.drop (j+1):=(List.take_append_drop _ _).symm;have h2:=HN.out;rw [h1,List.flatten_append,hsplit,List.flatten_append] at h2;simp only [O',At,List.flatten_nil,List.append_nil] at h2 ⊢;omega
   have HW:=hid (EQ1 s HST.out.1 hlen);have HSP:Hid (bs++(ss.take (j+1)).flatten=bs++(ss.take j).flatten++s):=hid (by rw [hsplit,List.flatten_append,List.append_assoc];simp);have i0:(0:Int)<=(j:Int):=Cf
   have i1:(j:Int) < (n:Int):=Cf
   clear hx hblk hsplit hlen hjs;go_wp2_with fail;refine HW.out.mono ?_;rintro e w2 ⟨⟨x,y,rfl⟩,hst2⟩;go_wp2_with fail;go_roundw
   case rel=>exact⟨j+1,Gv,Cf,by rw [HSP.out];exact HST.out.then hst2⟩
   case measure=>simp only [intOf];first|omega|(go_num;omega)|go_num
  ·have hjn:j=n:=by omega
   subst hjn;have hfin:ss.take j=ss:=Ar (by have:=HNN.out;omega);have HF:=hid hfin;clear hfin;go_wp2_with fail;go_end0;exact⟨rfl,Ds⟩
theorem UQ0 (ss:List (List UInt8)) (cs:Array Value) (n:Nat) (hcs:cs=(ss.map aQ1).toArray) (hnn:n=ss.length) (H:St B b l raw E lv rv ev bs w) (hn:bs.length+ss.flatten.length<=1099511627776) (hc:n<=1000) :
  Calls Tryz.prog 51 #[.pointer (some ⟨b,0,none⟩),.slice (some ⟨w.heap.size,0,none⟩) n n] (w.alloc (.cells cs 9 (0,0))) fun e w'=>e=.returned (.tuple #[])/\Stp B b l raw E lv rv ev (bs++ss.flatten) w w':=by
 subst hcs hnn;have hb:=(J' w.heap.size w).alloc (C' _) (.cells (ss.map aQ1).toArray 9 (0,0));refine (JQ1 w.heap.size ss.length ss (H.later hb) (heap_alloc_new w _) Ez hn hc).mono ?_;rintro e w' ⟨he,hs⟩;exact⟨he,Stp.ahead H hb hs⟩
end Rnd
namespace Rnd
open Go.RowKit
open Grd (Pt Fo)
variable {w w':World}{B b:Nat}{lv rv ev:Value}{l:List Pt}{raw:Nat->List UInt8}{E:List Nat}{bs t:List UInt8}{c:Nat}
theorem bU (hP:lQ1 l raw E lv rv ev c t) (H:St B b l raw E lv rv ev bs w) (ht:t.length<=1099511627776) :
  Calls Tryz.prog 90 #[.pointer (some ⟨b,0,none⟩),.int .i64 (c:Int)] w fun e w'=>e=.returned (.string ⟨t.toArray⟩)/\St B b l raw E lv rv ev bs w'/\Below w.heap.size w w':=by
 have HH:=hid H;have HE:=hid (H.2.mono (B':=w.heap.size) Ez);have HP:=hid hP;obtain⟨⟨v,hw⟩,_⟩:=H;obtain⟨p,_,hb⟩:=hw.blk;have HS:Hid (∀ w',Below w.heap.size w w'->w'.cell? ⟨b,2,none⟩=some lv/\w'.cell? ⟨b,3,none⟩=some rv/\w'.cell? ⟨b,4,none⟩=some ev):=hid (fun w' h=>by
  have h1:=(h.block _ (RA hb)).trans hb;exact⟨Fk,Fk,Fk⟩)
 obtain⟨lb,lo,lc,rfl,_,_⟩:=HE.out.parts;obtain⟨eb,ec,rfl,_,_,_⟩:=HE.out.ends;obtain⟨ra,rn,rc,rfl⟩:∃ a n c,rv=.slice a n c:=by
  rcases HE.out.raws with ⟨h,_⟩|⟨_,_,_,h,_⟩
  ·exact⟨_,_,_,h⟩
  ·exact⟨_,_,_,h⟩
 clear hw hb hP;have hb1:=(J' w.heap.size w).drew;go_enter Tryz.func90,Tryz.ntmps90;go_wp2_with fail;refine wp_region_held_drew (S:=fun w'=>w'.cell? ⟨b,2,none⟩=some (.slice (some ⟨lb,lo,none⟩) l.length lc)/\w'.cell? ⟨b,3,none⟩=some (.slice ra rn rc)/\w'.cell? ⟨b,4,none⟩=some (.slice (some ⟨eb,0,none⟩) l.length ec)) Ci ?_ (fun hHeld=>?_)
 ·exact HS.out _ hb1
 refine tk 0 ?_;try simp only [Act.put,ls]
 refine tk 1 ?_;try simp only [Act.put,ls]
 refine tk 2 ?_;try simp only [Act.put,ls]
 refine tk 3 ?_;try simp only [Act.put,ls]
 refine tk 4 ?_;try simp only [Act.put,ls]
 refine tk 5 ?_;try simp only [Act.put,ls]
 refine tk 6 ?_;try simp only [Act.put,ls]
 refine tk 7 ?_;try simp only [Act.put,ls]
 refine tk 8 ?_;try simp only [Act.put,ls]
 refine tk 9 ?_;try simp only [Act.put,ls]
 refine tk 10 ?_;try simp only [Act.put,ls]
 refine tk 11 ?_;try simp only [Act.put,ls]
 refine tk 12 ?_;try simp only [Act.put,ls]
 refine wpAnyH_ready (rs:=[13]) Ci Cm (AllReadyH.cons (o:=?_) ?_ (fun K hK=>?_) AllReadyH.nil)
 rotate_left
 ·exact Ax
 go_simp;go_wp2_with fail;have hb2:=hb1.alloc hb1.size (Obj.cells #[.pointer none,.slice none 0 0,.slice (some ⟨lb,lo,none⟩) l.length lc,.slice ra rn rc,.slice (some ⟨eb,0,none⟩) l.length ec] 78);refine hK.out _ _ ?_ (fun hHeld13=>?_)
 ·exact HS.out _ hb2
 clear hK K
 try simp only [Act.put,ls]
 refine wpAnyH_ready (rs:=[14]) Ci Cm (AllReadyH.cons (o:=?_) ?_ (fun K hK=>?_) AllReadyH.nil)
 rotate_left
 ·exact Ax
 go_simp;go_wp2_with fail;refine hK.out _ _ ?_ (fun hHeld14=>?_)
 ·exact HS.out _ hb2
 clear hK K
 try simp only [Act.put,ls]
 refine wpAnyH_done Ci ?_ _;have A1:=heap_alloc_new w.drew (Obj.cells #[.pointer none,.slice none 0 0,.slice (some ⟨lb,lo,none⟩) l.length lc,.slice ra rn rc,.slice (some ⟨eb,0,none⟩) l.length ec] 78);have hst:St w.heap.size w.heap.size l raw E (.slice (some ⟨lb,lo,none⟩) l.length lc) (.slice ra rn rc) (.slice (some ⟨eb,0,none⟩) l.length ec) [] (w.drew.alloc (Obj.cells #[.pointer none,.slice none 0 0,.slice (some ⟨lb,lo,none⟩) l.length lc,.slice ra rn rc,.slice (some ⟨eb,0,none⟩) l.length ec] 78)) :=
  ⟨⟨.slice none 0 0,C' _,⟨_,.inl rfl,A1⟩,As _ _ _ _,Cz⟩,HE.out.below hb2⟩
 have HST:=hid (And.intro hst hb2);clear A1 hst hb2 hb1 HS;go_wp2_with fail;refine (HP.out w.heap.size w.heap.size [] _ HST.out.1 (by simpa using ht)).mono ?_;rintro e w3 ⟨rfl,hs3⟩;obtain⟨⟨v3,hv3⟩,_⟩:=hs3.1;have HB3:=hid (HST.out.2.trans hs3.2.1);have HV:=hid hv3;clear hs3 hv3;go_wp2_with fail;refine (wQ1 HV.out).mono ?_;rintro e w4 ⟨rfl,hb4⟩;have hb:=HB3.out.trans hb4;clear hb4;go_wp2_with fail;go_ret;exact⟨rfl,HH.out.later hb,hb⟩
theorem dQ1 (hP:lQ1 l raw E lv rv ev c t) (a:List UInt8) (H:St B b l raw E lv rv ev bs w) (hn:bs.length+(WQ0 a t []).length<=1099511627776) :
  Calls Tryz.prog 87 #[.pointer (some ⟨b,0,none⟩),.string ⟨a.toArray⟩,.int .i64 (c:Int)] w fun e w'=>e=.returned (.tuple #[])/\Stp B b l raw E lv rv ev (bs++WQ0 a t []) w w':=by
 have ht:t.length<=1099511627776:=by
  unfold WQ0 at hn;split at hn
  ·rename_i h;rw [h];simp
  ·simp only [O'] at hn;omega
 have HW:=hid (bU hP H ht);have HH:=hid (And.intro H hn);clear hP H hn ht;go_enter Tryz.func87,Tryz.ntmps87;go_wp2_with fail;refine HW.out.mono ?_;rintro e w1 ⟨rfl,hs1,hb1⟩;have HS1:=hid (And.intro hs1 hb1);clear hs1 hb1 HW;by_cases h0:t=[]
 ·exact Ba
 ·have h1:(t==[])=false:=by simpa using h0
  have HP2:=hid (UQ0 (w:=w1) [a,t] #[.string ⟨a.toArray⟩,.string ⟨t.toArray⟩] 2 rfl rfl HS1.out.1 Eo Ch);have HF:Hid (bs++[a,t].flatten=bs++WQ0 a t []):=hid Ir;clear h0;go_wp2_with fail;refine HP2.out.mono ?_;rintro e w2 ⟨rfl,hs2⟩;rw [HF.out] at hs2;have hs3:=Stp.ahead HH.out.1 HS1.out.2 hs2;clear hs2;go_wp2_with fail;go_end0;exact⟨rfl,hs3⟩
theorem eQ1 (hP:lQ1 l raw E lv rv ev c t) (a:List UInt8) (H:St B b l raw E lv rv ev bs w) (hn:bs.length+(WQ0 [] t a).length<=1099511627776) :
  Calls Tryz.prog 86 #[.pointer (some ⟨b,0,none⟩),.int .i64 (c:Int),.string ⟨a.toArray⟩] w fun e w'=>e=.returned (.tuple #[])/\Stp B b l raw E lv rv ev (bs++WQ0 [] t a) w w':=by
 have ht:t.length<=1099511627776:=by
  unfold WQ0 at hn;split at hn
  ·rename_i h;rw [h];simp
  ·simp only [O'] at hn;omega
 have HW:=hid (bU hP H ht);have HH:=hid (And.intro H hn);clear hP H hn ht;go_enter Tryz.func86,Tryz.ntmps86;go_wp2_with fail;refine HW.out.mono ?_;rintro e w1 ⟨rfl,hs1,hb1⟩;have HS1:=hid (And.intro hs1 hb1);clear hs1 hb1 HW;by_cases h0:t=[]
 ·exact Ba
 ·have h1:(t==[])=false:=by simpa using h0
  have HP2:=hid (UQ0 (w:=w1) [t,a] #[.string ⟨t.toArray⟩,.string ⟨a.toArray⟩] 2 rfl rfl HS1.out.1 Eo Ch);have HF:Hid (bs++[t,a].flatten=bs++WQ0 [] t a):=hid Ir;clear h0;go_wp2_with fail;refine HP2.out.mono ?_;rintro e w2 ⟨rfl,hs2⟩;rw [HF.out] at hs2;have hs3:=Stp.ahead HH.out.1 HS1.out.2 hs2;clear hs2;go_wp2_with fail;go_end0;exact⟨rfl,hs3⟩
theorem CV (hP:lQ1 l raw E lv rv ev c t) {q:Pt} (hq:l[c]?=some q) (H:St B b l raw E lv rv ev bs w) (hn:bs.length+(t++(if q.k=27 then [32] else [])).length<=1099511627776) :
  Calls Tryz.prog 89 #[.pointer (some ⟨b,0,none⟩),.int .i64 (c:Int)] w fun e w'=>e=.returned (.tuple #[])/\Stp B b l raw E lv rv ev (bs++(t++(if q.k=27 then [32] else []))) w w':=by
 have HW:=hid (hP B b bs w H (by simp only [O'] at hn;omega));obtain⟨Z,hZ⟩:∃ Z,Z=t++(if q.k=27 then [32] else []):=⟨_,rfl⟩;rw [<- hZ] at hn ⊢;have HZ:=hid hZ;have HN:=hid hn;clear hZ;have hcl:=(Ai.1 hq).1;obtain⟨lb,lo,lc,rfl,hlb,_⟩:=H.2.parts;have HQ:=hid hq;clear hP H hn hq;go_enter Tryz.func89,Tryz.ntmps89;go_wp2_with fail;refine HW.out.mono ?_;rintro e w1 ⟨rfl,hs1⟩;obtain⟨⟨v1,hv1⟩,he1⟩:=hs1.1;obtain⟨p1,_,hb1⟩:=hv1.blk;obtain⟨lb',lo',lc',e1,_,hpc⟩:=he1.parts;cases e1;obtain⟨c0,_,_⟩:=hpc c q HQ.out;have c2:w1.cell? ⟨b,2,none⟩=some (.slice (some ⟨lb,lo,none⟩) l.length lc):=by unfold World.cell?;rw [hb1];rfl
 have i0:(0:Int)<=(c:Int):=Cf
 have i1:(c:Int) < (l.length:Int):=Cf
 have HS1:=hid hs1;clear hs1 hv1 he1 hb1 hpc HW HQ;by_cases hk:q.k=27
 ·rw [hk] at c0;have HP2:=hid (UQ0 (w:=w1) [[32]] #[.string ⟨#[32]⟩] 1 rfl rfl HS1.out.1 (by have:=HN.out;rw [HZ.out,if_pos hk] at this;simp at this ⊢;omega) Ch);have HF:Hid (bs++t++[[32]].flatten=bs++Z):=hid (by rw [HZ.out,if_pos hk];simp);clear hk HN;go_wp2_with fail;refine HP2.out.mono ?_;rintro e w2 ⟨rfl,hs2⟩;rw [HF.out] at hs2;have hs3:=HS1.out.then hs2;clear hs2;go_wp2_with fail;go_end0;exact⟨rfl,hs3⟩
 ·have k1:((q.k.toNat:Int)==27)=false:=by
   rw [beq_eq_false_iff_ne];intro h;exact hk (Av.1 (by simpa using (by omega:q.k.toNat=27)))
  have k2:(q.k.toNat==27)=false:=by
   rw [beq_eq_false_iff_ne];intro h;exact hk (Av.1 Dc)
  have HF:Hid (bs++t=bs++Z):=hid (by rw [HZ.out,if_neg hk];simp);clear hk HN;go_wp2_with fail;go_end0;exact⟨rfl,by rw [<- HF.out];exact HS1.out⟩
end Rnd
namespace Rnd
open Go.RowKit
open Grd (Pt Fo)
variable {w w':World}{B b:Nat}{lv rv ev:Value}{l:List Pt}{raw:Nat->List UInt8}{E:List Nat}{bs t:List UInt8}{c:Nat}
def YQ0 (b:Nat) (a:Option Addr) (ks:List Nat) (w:World):Prop:=ks=[]∨∃ kb ko cs fr,a=some ⟨kb,ko,none⟩/\kb≠b/\w.heap[kb]?=some (.cells cs 3 fr)/\∀ (j c:Nat),ks[j]?=some c->cs[ko+j]?=some (.int .i64 (c:Int))
theorem YQ0.kept {a:Option Addr}{ks:List Nat} (h:YQ0 b a ks w) (hk:XQ0 b w w'):YQ0 b a ks w' :=
 h.imp_right fun⟨kb,ko,cs,fr,h1,h2,h3,h4⟩=>⟨kb,ko,cs,fr,h1,h2,hk _ _ _ _ h3 h2 Ch,h4⟩
theorem YQ0.cell {a:Option Addr}{ks:List Nat}{j c:Nat} (h:YQ0 b a ks w) (hj:ks[j]?=some c):∃ kb ko,a=some ⟨kb,ko,none⟩/\w.cell? ⟨kb,ko+j,none⟩=some (.int .i64 (c:Int)):=by
 rcases h with h|⟨kb,ko,cs,fr,h1,h2,h3,h4⟩
 ·rw [h] at hj;cases hj
 ·exact⟨kb,ko,h1,by unfold World.cell?;rw [h3];exact h4 j c hj⟩
theorem YQ0.sub {kb ko:Nat}{ks:List Nat} (h:YQ0 b (some ⟨kb,ko,none⟩) ks w) (d n:Nat):YQ0 b (some ⟨kb,ko+d,none⟩) ((ks.drop d).take n) w:=by
 rcases h with h|⟨kb',ko',cs,fr,h1,h2,h3,h4⟩
 ·exact .inl (by rw [h];simp)
 ·cases h1;refine .inr ⟨kb,ko+d,cs,fr,rfl,h2,h3,fun j c hj=>?_⟩;rw [List.getElem?_take] at hj;split at hj
  ·rw [List.getElem?_drop] at hj;rw [Nat.add_assoc];exact h4 _ _ hj
  ·cases hj
structure KL (l:List Pt) (raw:Nat->List UInt8) (E:List Nat) (lv rv ev:Value) (ks:List Nat) (ts:List Tx):Prop where
 len:ks.length=ts.length
 law:∀ (j c:Nat) (x:Tx),ks[j]?=some c->ts[j]?=some x->lQ1 l raw E lv rv ev c x.2/\∃ p,l[c]?=some p/\p.k=x.1
theorem KL.sub {ks:List Nat}{ts:List Tx} (h:KL l raw E lv rv ev ks ts) (d n:Nat):KL l raw E lv rv ev ((ks.drop d).take n) ((ts.drop d).take n):=by
 refine⟨by simp [h.len],fun j c x hj hx=>?_⟩;rw [List.getElem?_take] at hj hx;split at hj
 ·rename_i hlt;rw [if_pos hlt] at hx;rw [List.getElem?_drop] at hj hx;exact h.law _ _ _ hj hx
 ·cases hj
theorem KL.at' {ks:List Nat}{ts:List Tx} (h:KL l raw E lv rv ev ks ts) {j:Nat} (hj:j < ks.length):∃ c x,ks[j]?=some c/\ts[j]?=some x/\lQ1 l raw E lv rv ev c x.2/\∃ p,l[c]?=some p/\p.k=x.1:=by
 have h2:j < ts.length:=by rw [<- h.len];exact hj
 obtain⟨h3,h4⟩:=h.law j ks[j] ts[j] (M' hj) (M' h2);exact⟨_,_,M' hj,M' h2,h3,h4⟩
theorem pQ1 {α:Type}{ts:List α}{j:Nat}{x:α} (h:ts[j]?=some x):ts.take (j+1)=ts.take j++[x]:=by rw [List.take_add_one,h];rfl
theorem qQ1 {α:Type} (f:α->List UInt8) (ts:List α) (j:Nat):((ts.take j).flatMap f).length<=(ts.flatMap f).length:=by
 have h:ts.flatMap f=(ts.take j).flatMap f++(ts.drop j).flatMap f:=by rw [<- List.flatMap_append,List.take_append_drop]
 rw [h,O'];omega
theorem kQ1 {ks:List Nat}{ts:List Tx} (a:Option Addr) (cap:Nat) (hK:KL l raw E lv rv ev ks ts) (hA:YQ0 b a ks w) (H:St B b l raw E lv rv ev bs w) (hn:bs.length+(fQ1 ts).length<=1099511627776) (hkl:ks.length<=1000000000) :
  Calls Tryz.prog 85 #[.pointer (some ⟨b,0,none⟩),.slice a ks.length cap] w fun e w'=>e=.returned (.tuple #[])/\Stp B b l raw E lv rv ev (bs++fQ1 ts) w w':=by
 have HH:=hid H;have HK:=hid hK;have HA:=hid hA;have HN:=hid hn;obtain⟨n,hnn⟩:∃ n,n=ks.length:=⟨_,rfl⟩;rw [<- hnn] at hkl ⊢;have HNN:=hid hnn;clear H hK hA hn hnn;go_enter Tryz.func85,Tryz.ntmps85;go_wp2_with fail
 go_loopw [5,8] (fun v5 v8 wr=>∃ j:Nat,v8=.int .i64 (j:Int)/\j<=n/\Stp B b l raw E lv rv ev (bs++fQ1 (ts.take j)) w wr) (fun _ v _=>((n:Int) - intOf v).toNat)
 case atStart=>exact⟨0,rfl,Cf,by simpa [fQ1] using Stp.refl HH.out⟩
 case round =>
  obtain⟨j,rfl,hj,hst⟩:=hrel;have HST:=hid hst;clear hst;by_cases hlt:j < n
  ·obtain⟨c,x,hc,hx,hp,_⟩:=HK.out.at' (show j < ks.length by have:=HNN.out;omega);obtain⟨kb,ko,rfl,c1⟩:=(HA.out.kept HST.out.2.2).cell hc;have hsp:fQ1 (ts.take (j+1))=fQ1 (ts.take j)++(x.2++[10]):=by rw [pQ1 hx];simp [fQ1]
   have hle:=qQ1 (fun x=>x.2++[10]) ts (j+1);have hlen:(bs++fQ1 (ts.take j)).length+(x.2++[10]).length<=1099511627776:=by
    have h1:=HN.out;have h2:(fQ1 (ts.take (j+1))).length<=(fQ1 ts).length:=hle;rw [hsp] at h2;simp only [O'] at h2 ⊢;omega
   have HP:=hid (hp B b _ wr HST.out.1 (by simp only [O'] at hlen ⊢;omega));have HSP:=hid (And.intro hsp hlen);have i0:(0:Int)<=(j:Int):=Cf
   have i1:(j:Int) < (n:Int):=Cf
   clear hp hc hx hsp hle hlen;go_wp2_with fail;refine HP.out.mono ?_;rintro e w2 ⟨rfl,hst2⟩;have HP2:=hid (UQ0 (w:=w2) [[10]] #[.string ⟨#[10]⟩] 1 rfl rfl hst2.1 (by have:=HSP.out.2;simp only [O',At,List.flatten_nil,List.append_nil] at this ⊢;omega) Ch);have HST2:=hid (HST.out.then hst2);clear hst2 HP;go_wp2_with fail;refine HP2.out.mono ?_;rintro e w3 ⟨rfl,hst3⟩;have hst4:=HST2.out.then hst3;clear hst3;go_wp2_with fail;go_roundw
   case rel=>exact⟨j+1,Gv,Cf,by rw [HSP.out.1];simpa using hst4⟩
   case measure=>simp only [intOf];first|omega|(go_num;omega)|go_num
  ·have hjn:j=n:=by omega
   subst hjn;have HF:Hid (ts.take j=ts):=hid (Ar Hk);go_wp2_with fail;go_end0;exact⟨rfl,Ds⟩
theorem CQ1 (m:List UInt8) {ts:List Tx} (x:Tx) (h:ts≠[]):cQ1 m (ts++[x])=cQ1 m ts++(m++x.2):=by
 cases ts with
 | nil=>exact absurd rfl h
 | cons y r=>simp [cQ1,BQ1]
theorem IQ1 (m:List UInt8) (ts:List Tx) (j:Nat):(cQ1 m (ts.take j)).length<=(cQ1 m ts).length:=by
 cases ts with
 | nil=>simp
 | cons y r =>
  cases j with
  | zero=>simp [cQ1]
  | succ j =>
   have:=qQ1 (fun y:Tx=>m++y.2) r j;simp only [List.take_succ_cons,cQ1,BQ1,O'] at this ⊢;omega
theorem pV {ks:List Nat}{ts:List Tx} (a:Option Addr) (cap:Nat) (m:List UInt8) (hK:KL l raw E lv rv ev ks ts) (hA:YQ0 b a ks w) (H:St B b l raw E lv rv ev bs w) (hn:bs.length+(cQ1 m ts).length<=1099511627776) (hkl:ks.length<=1000000000) :
  Calls Tryz.prog 88 #[.pointer (some ⟨b,0,none⟩),.slice a ks.length cap,.string ⟨m.toArray⟩] w fun e w'=>e=.returned (.tuple #[])/\Stp B b l raw E lv rv ev (bs++cQ1 m ts) w w':=by
 have HH:=hid H;have HK:=hid hK;have HA:=hid hA;have HN:=hid hn;obtain⟨n,hnn⟩:∃ n,n=ks.length:=⟨_,rfl⟩;rw [<- hnn] at hkl ⊢;have HNN:=hid hnn;clear H hK hA hn hnn;go_enter Tryz.func88,Tryz.ntmps88;go_wp2_with fail
 go_loopw [6,7,10] (fun v6 v7 v10 wr=>∃ j:Nat,v10=.int .i64 (j:Int)/\j<=n/\Stp B b l raw E lv rv ev (bs++cQ1 m (ts.take j)) w wr) (fun _ _ v _=>((n:Int) - intOf v).toNat)
 case atStart=>exact⟨0,rfl,Cf,by simpa [cQ1] using Stp.refl HH.out⟩
 case round =>
  obtain⟨j,rfl,hj,hst⟩:=hrel;have HST:=hid hst;clear hst;by_cases hlt:j < n
  ·obtain⟨c,x,hc,hx,hp,_⟩:=HK.out.at' (show j < ks.length by have:=HNN.out;omega);obtain⟨kb,ko,rfl,c1⟩:=(HA.out.kept HST.out.2.2).cell hc;have hle:=IQ1 m ts (j+1);have hN:=HN.out;have HJT:=hid (pQ1 hx);have i0:(0:Int)<=(j:Int):=by omega
   have i1:(j:Int) < (n:Int):=Cf
   have HP:=hid hp;have HHX:=hid (And.intro hle hN);have hjt:j < ts.length:=(Ai.1 hx).1;clear hp hc hx hle hN;rcases Nat.eq_zero_or_pos j with h0|h0
   ·subst h0;rw [Nat.add_zero] at c1;have HSP:Hid (bs++cQ1 m (ts.take 1)=bs++cQ1 m (ts.take 0)++x.2):=hid (by rw [HJT.out];simp [cQ1,BQ1]);have HP1:=hid (HP.out B b _ wr HST.out.1 (by have h1:=HHX.out;have h2:=congrArg List.length HSP.out;simp only [O',Nat.zero_add] at h1 h2 ⊢;omega));clear HP hjt;go_wp2_with fail;refine HP1.out.mono ?_;rintro e w2 ⟨rfl,hst2⟩;have hst3:=HST.out.then hst2;rw [<- HSP.out] at hst3;clear hst2;go_wp2_with fail;go_roundw
    case rel=>exact⟨1,Gv,Cf,hst3⟩
    case measure=>simp only [intOf];first|omega|(go_num;omega)|go_num
   ·have d0:decide ((0:Int) < (j:Int))=true:=by simp;omega
    have d0':decide (0 < j)=true:=Cn
    have HSP:Hid (bs++cQ1 m (ts.take (j+1))=bs++cQ1 m (ts.take j)++m++x.2):=hid (by
     have hne:ts.take j≠[]:=fun h=>by
      have h2:(ts.take j).length=0:=by rw [h];rfl
      rw [List.length_take] at h2;omega
     rw [HJT.out,CQ1 m x hne];simp)
    have HLN:Hid ((bs++cQ1 m (ts.take j)++m++x.2).length<=1099511627776):=hid (by rw [<- HSP.out];have h1:=HHX.out;simp only [O'] at h1 ⊢;omega);have HP1:=hid (UQ0 (w:=wr) [m] #[.string ⟨m.toArray⟩] 1 rfl rfl HST.out.1 Dg Ch);clear h0 hjt;go_wp2_with fail;refine HP1.out.mono ?_;rintro e w2 ⟨rfl,hst2⟩;rw [show [m].flatten=m by simp] at hst2;have HP3:=hid (HP.out B b _ w2 hst2.1 Gh);have HST2:=hid (HST.out.then hst2);clear hst2 HP1 HP;go_wp2_with fail;refine HP3.out.mono ?_;rintro e w3 ⟨rfl,hst3⟩;have hst4:=HST2.out.then hst3;rw [<- HSP.out] at hst4;clear hst3;go_wp2_with fail;go_roundw
    case rel=>exact⟨j+1,Gv,Cf,hst4⟩
    case measure=>simp only [intOf];first|omega|(go_num;omega)|go_num
  ·have hjn:j=n:=by omega
   subst hjn;have HF:Hid (ts.take j=ts):=hid (Ar Hk);go_wp2_with fail;go_end0;exact⟨rfl,Ds⟩
theorem FQ1 {ks:List Nat}{ts:List Tx} (a:Option Addr) (cap sb cap2:Nat) (ss:List (List UInt8)) (hK:KL l raw E lv rv ev ks ts) (hA:YQ0 b a ks w) (H:St B b l raw E lv rv ev bs w) (hs:w.heap[sb]?=some (.cells (ss.map aQ1).toArray 9 (0,0))) (hsb:sb≠b)
  (hn:bs.length+(xE ts ss).length<=1099511627776) (hkl:ks.length<=1000000000) (hsl:ss.length<=1000) :
  Calls Tryz.prog 84 #[.pointer (some ⟨b,0,none⟩),.slice a ks.length cap,.slice (some ⟨sb,0,none⟩) ss.length cap2] w fun e w'=>e=.returned (.tuple #[])/\Stp B b l raw E lv rv ev (bs++xE ts ss) w w':=by
 have HH:=hid H;have HK:=hid hK;have HA:=hid hA;have HN:=hid hn;have HS:=hid hs;obtain⟨n,hnn⟩:∃ n,n=ks.length:=⟨_,rfl⟩;obtain⟨q,hqq⟩:∃ q,q=ss.length:=⟨_,rfl⟩;rw [<- hnn] at hkl ⊢;rw [<- hqq] at hsl ⊢;have HNN:=hid (And.intro hnn hqq);clear H hK hA hn hnn hs hqq;go_enter Tryz.func84,Tryz.ntmps84;go_wp2_with fail
 go_loopw [6,7,10] (fun v6 v7 v10 wr=>∃ j:Nat,v10=.int .i64 (j:Int)/\j<=q/\Stp B b l raw E lv rv ev (bs++(List.range j).flatMap (jQ1 ts ss)) w wr) (fun _ _ v _=>((q:Int) - intOf v).toNat)
 case atStart=>exact⟨0,rfl,Cf,by simpa using Stp.refl HH.out⟩
 case round =>
  obtain⟨j,rfl,hj,hst⟩:=hrel;have HST:=hid hst;clear hst;by_cases hlt:j < q
  ·obtain⟨s,hx⟩:∃ s,ss[j]?=some s:=⟨_,M' Ih⟩;have hblk:=HST.out.2.2 sb _ _ _ HS.out hsb Ch;have c1:wr.cell? ⟨sb,j,none⟩=some (.string ⟨s.toArray⟩):=by
    unfold World.cell?;rw [hblk];simp [aQ1,hx]
   have i0:(0:Int)<=(j:Int):=Cf
   have i1:(j:Int) < (q:Int):=Cf
   have hsplit:(List.range (j+1)).flatMap (jQ1 ts ss)=(List.range j).flatMap (jQ1 ts ss)++jQ1 ts ss j:=by rw [List.range_succ,List.flatMap_append];simp
   have hlen:((List.range (j+1)).flatMap (jQ1 ts ss)).length<=(xE ts ss).length:=by
    have h1:=qQ1 (jQ1 ts ss) (List.range ss.length) (j+1);rw [List.take_range,Nat.min_eq_left Ih] at h1;exact h1
   have hd:ss.getD j []=s:=by rw [List.getD_eq_getElem?_getD,hx];rfl
   have z1:IntKind.i64.wrap ((q:Int) - 1)=(q:Int) - 1:=Cs
   have HSP:=hid (And.intro hsplit (And.intro hlen hd));clear hx hblk hsplit hlen hd;by_cases hk:j < n/\j+1 < q
   ·obtain⟨hk1,hk2⟩:=hk;obtain⟨c,x,hc,hx,hp,_⟩:=HK.out.at' (show j < ks.length by have:=HNN.out.1;omega);have HP:=hid hp;have HC:=hid hc;have HW1:Hid (jQ1 ts ss j=s++x.2):=hid (by
     unfold jQ1 tx;rw [HSP.out.2.2,if_pos ⟨(Ai.1 hx).1,Ih⟩,hx];rfl)
    have HLN:Hid ((bs++(List.range j).flatMap (jQ1 ts ss)++s++x.2).length<=1099511627776):=hid (by
     have h1:=HSP.out.2.1;have h2:=HN.out;rw [HSP.out.1,HW1.out] at h1;simp only [O'] at h1 ⊢;omega)
    have HP1:=hid (UQ0 (w:=wr) [s] #[.string ⟨s.toArray⟩] 1 rfl rfl HST.out.1 Dg Ch);have d1:decide ((j:Int) < (n:Int))=true:=Cn
    have d1':decide (j < n)=true:=Cn
    have d2:decide ((j:Int) < (q:Int) - 1)=true:=Cn
    have i2:(j:Int) < (n:Int):=Cf
    clear hp hc hx;go_wp2_with fail;refine HP1.out.mono ?_;rintro e w2 ⟨rfl,hst2⟩;rw [show [s].flatten=s by simp] at hst2;have HST2:=hid (HST.out.then hst2);have HP3:=hid (HP.out B b _ w2 hst2.1 Gh);obtain⟨kb,ko,rfl,c2⟩:=(HA.out.kept HST2.out.2.2).cell HC.out;clear hst2 HP1 HP c1;go_wp2_with fail;refine HP3.out.mono ?_;rintro e w3 ⟨rfl,hst3⟩;have hst4:=HST2.out.then hst3;rw [List.append_assoc,List.append_assoc,<- HW1.out,<- HSP.out.1] at hst4;clear hst3;go_wp2_with fail;go_roundw
    case rel=>exact⟨j+1,Gv,Cf,hst4⟩
    case measure=>simp only [intOf];first|omega|(go_num;omega)|go_num
   ·have HW1:Hid (jQ1 ts ss j=s):=hid (by
     unfold jQ1;rw [HSP.out.2.2,if_neg (by intro h;have:=HNN.out;have:=HK.out.len;omega)];simp)
    have HLN:Hid ((bs++(List.range j).flatMap (jQ1 ts ss)++s).length<=1099511627776):=hid (by
     have h1:=HSP.out.2.1;have h2:=HN.out;rw [HSP.out.1,HW1.out] at h1;simp only [O'] at h1 ⊢;omega)
    have HP1:=hid (UQ0 (w:=wr) [s] #[.string ⟨s.toArray⟩] 1 rfl rfl HST.out.1 Dg Ch);have fin:∀ w2,Stp B b l raw E lv rv ev (bs++(List.range j).flatMap (jQ1 ts ss)++[s].flatten) wr w2->Stp B b l raw E lv rv ev (bs++(List.range (j+1)).flatMap (jQ1 ts ss)) w w2:=fun w2 h=>by
     have h4:=HST.out.then h;rw [show [s].flatten=s by simp,List.append_assoc] at h4;rw [HSP.out.1,HW1.out];exact h4
    have FIN:=hid fin;clear fin;by_cases hk1:j < n
    ·have d1:decide ((j:Int) < (n:Int))=true:=by simp;omega
     have d1':decide (j < n)=true:=Cn
     have d2:decide ((j:Int) < (q:Int) - 1)=false:=Cn
     clear hk;go_wp2_with fail;refine HP1.out.mono ?_;rintro e w2 ⟨rfl,hst2⟩;have hst4:=FIN.out _ hst2;clear hst2;go_wp2_with fail;go_roundw
     case rel=>exact⟨j+1,Gv,Cf,hst4⟩
     case measure=>simp only [intOf];first|omega|(go_num;omega)|go_num
    ·have d1:decide ((j:Int) < (n:Int))=false:=by simp;omega
     have d1':decide (j < n)=false:=Cn
     clear hk;go_wp2_with fail;refine HP1.out.mono ?_;rintro e w2 ⟨rfl,hst2⟩;have hst4:=FIN.out _ hst2;clear hst2;go_wp2_with fail;go_roundw
     case rel=>exact⟨j+1,Gv,Cf,hst4⟩
     case measure=>simp only [intOf];first|omega|(go_num;omega)|go_num
  ·have hjn:j=q:=by omega
   subst hjn;have HF:Hid ((List.range j).flatMap (jQ1 ts ss)=xE ts ss):=hid (by unfold xE;rw [<- HNN.out.2]);go_wp2_with fail;go_end0;exact⟨rfl,Ds⟩
theorem ZQ0 {ks:List Nat}{ts:List Tx} (a:Option Addr) (cap:Nat) (ss:List (List UInt8)) (cs:Array Value) (n:Nat) (hcs:cs=(ss.map aQ1).toArray) (hnn:n=ss.length) (hK:KL l raw E lv rv ev ks ts) (hA:YQ0 b a ks w) (H:St B b l raw E lv rv ev bs w)
  (hn:bs.length+(xE ts ss).length<=1099511627776) (hkl:ks.length<=1000000000) (hc:n<=1000) :
  Calls Tryz.prog 84 #[.pointer (some ⟨b,0,none⟩),.slice a ks.length cap,.slice (some ⟨w.heap.size,0,none⟩) n n] (w.alloc (.cells cs 9 (0,0))) fun e w'=>e=.returned (.tuple #[])/\Stp B b l raw E lv rv ev (bs++xE ts ss) w w':=by
 subst hcs hnn;have hb:=(J' w.heap.size w).alloc (C' _) (.cells (ss.map aQ1).toArray 9 (0,0));refine (FQ1 a cap w.heap.size ss.length ss hK (hA.kept (XQ0.of_below hb)) (H.later hb) (heap_alloc_new w _) Ez hn hkl hc).mono ?_;rintro e w' ⟨he,hs⟩;exact⟨he,Stp.ahead H hb hs⟩
end Rnd
namespace Rnd
open Go.RowKit
open Grd (Pt Fo)
variable {w w':World}{B b:Nat}{lv rv ev:Value}{l:List Pt}{raw:Nat->List UInt8}{E:List Nat}{bs t:List UInt8}{c:Nat}
theorem Tryz.infoI:(Tryz.prog.info? 3).map (fun i=>(i.zero,i.size,i.bytes))=some (some (.int .i64 0),1,8):=Ci
def yQ1 (o:List Nat):Nat->Nat->List Nat->Prop
 | j,e,[]=>j=e
 | j,e,x::r=>x=j/\j < e/\∃ j',o[j]?=some j'/\yQ1 o j' e r
theorem MQ1 {lo n cap:Nat}{a:Option Addr}{ks:List Nat} (h:w.ownsRow lo 3 1 (.slice a n cap) n (Grd.ivs ks)) (hlo:b < lo) (hn:n=ks.length):YQ0 b a ks w:=by
 by_cases h0:ks=[]
 ·exact .inl h0
 ·have hp:0 < n:=by rw [hn];exact List.length_pos_iff.2 h0
  rcases h.2 with ⟨_,hz⟩|⟨g,cap',cur,hv,hg,hh,hnc,hcap,hsz,htake⟩
  ·exact Cf
  ·cases hv;refine .inr ⟨g,0,cur,_,rfl,Cf,hh,fun j c hj=>?_⟩;have hjl:=(Ai.1 hj).1;have h1:(cur.toList.take (n*1))[j]?=some (.int .i64 (c:Int)):=by rw [htake];unfold Grd.ivs;rw [List.getElem?_map,hj];rfl
   rw [List.getElem?_take,if_pos Cf] at h1;rw [Nat.zero_add];simpa using h1
theorem nQ1 (H:St B b l raw E lv rv ev bs w):∃ eb ec,ev=.slice (some ⟨eb,0,none⟩) l.length ec/\eb < B/\E.length=l.length/\w.cell? ⟨b,4,none⟩=some (.slice (some ⟨eb,0,none⟩) l.length ec)/\∀ j e,E[j]?=some e->w.cell? ⟨eb,j,none⟩=some (.int .i64 ((e:Nat):Int)):=by
 obtain⟨⟨v,hv⟩,he⟩:=H;obtain⟨eb,ec,rfl,h1,h2,h3⟩:=he.ends;obtain⟨p,_,hb⟩:=hv.blk;exact⟨eb,ec,rfl,h1,h2,Dm,h3⟩
theorem NQ1 (i e:Nat) (ks:List Nat) (H:St B b l raw E lv rv ev bs w) (hi:i < l.length) (he:E[i]?=some e) (hC:yQ1 E (i+1) e ks) (hk:ks.length<=100000000) (hel:e<=l.length) :
  Calls Tryz.prog 52 #[.pointer (some ⟨b,0,none⟩),.int .i64 (i:Int)] w fun x w'=>∃ a cap,x=.returned (.slice a ks.length cap)/\ks.length<=cap/\YQ0 b a ks w'/\Below w.heap.size w w':=by
 obtain⟨i0,hi0,hz0,hz1,hz2⟩:=info_parts Tryz.infoI;have HH:=hid H;have hll:l.length<=100000000:=H.2.few;have hbw:=H.lo.2;obtain⟨eb,ec,rfl,hebB,hEl,_,_⟩:=nQ1 H;obtain⟨n,hn⟩:∃ n,n=l.length:=⟨_,rfl⟩;have HC:=hid hC;have HE:=hid he;have HN:=hid (And.intro hn hEl);have ii:(0:Int)<=(i:Int):=Cf
 have iin:(i:Int) < (n:Int):=Cf
 rw [<- hn] at hi hel hll;clear H hC he hEl hn;go_enter Tryz.func52,Tryz.ntmps52;go_wp2_with fail
 go_loopg [5,6] ks.length (fun q v5 v6 wr=>∃ (done rest:List Nat) (j:Nat),ks=done++rest/\rest.length=q/\v6=.int .i64 (j:Int)/\yQ1 E j e rest /\
  wr.ownsRow w.heap.size 3 1 v5 done.length (Grd.ivs done)/\Below w.heap.size w wr)
 case atStart=>exact⟨[],ks,i+1,rfl,rfl,Gv,HC.out,As _ _ _ _,J' _ _⟩
 case round =>
  obtain⟨done,rest,j,hks,hq,rfl,hch,hd,hb⟩:=hrel;obtain⟨eb',ec',e1,_,_,c4,hcell⟩:=nQ1 (HH.out.later hb);cases e1;have ci:=hcell i e HE.out;rw [<- HN.out.1] at c4;obtain⟨da,dc,rfl⟩:=Grd.ID hd;cases rest with
  | nil =>
   obtain rfl:j=e:=hch;have hf:ks=done:=by rw [hks,List.append_nil]
   have HD:=hid (And.intro hd hb);clear hd hb hks hq hcell HC;subst hf;go_wp2_with fail;go_ret;exact⟨_,_,rfl,Grd.IK HD.out.1,MQ1 HD.out.1 hbw rfl,HD.out.2⟩
  | cons x r =>
   obtain⟨rfl,hje,j2,hj2,hr⟩:=hch;have cx:=hcell x j2 hj2;have hji:(x:Int) < (e:Int):=Cf
   have hjn:(x:Int) < (n:Int):=Cf
   have hj0:0<=(x:Int):=Cf
   have hdl:done.length+(r.length+1)=ks.length:=by rw [hks,O',Ab]
   have hcap:=Grd.IK hd;have h63:done.length+1<=maxLen:=Cu
   have hby:(done.length+1)*8<=140737488355328:=Cf
   have hb2:=hb.size;have hbase:w.heap.size<=(wr.alloc (Obj.cells #[.int .i64 (x:Int)] 3)).heap.size:=by rw [World.size_alloc];omega
   have HKS:=hid hks;have HR:=hid (And.intro hr hq);have HBB:=hid hb;have HDG:=hid hd.lt;have HJ:=hid hj2;clear hks hr hq hb hcell;go_upto_region 5 with fail;clear ci cx c4;go_wp2_with (at_builtin;refine wpList_append_own_at _ rfl (.tmp 25) (.tmp 27) 55 rfl w.heap.size 3 i0 (.int .i64 0) 1 8 Tryz.underlying55 hi0 hz0 hz1 hz2 rfl Ch _ _ _ rfl (hd.alloc _) ⟨wr.heap.size,0,none⟩ 1 1 [.int .i64 (x:Int)] rfl rfl (cell_one_new _ _ _) (Grd.oS _ _) h63 hby hbase ?_);intro v2 w2 hown2 hgrow _ _;have hbl:=(HBB.out.alloc HBB.out.size (Obj.cells #[.int .i64 (x:Int)] 3)).grown hgrow (by have:=HBB.out.size;simp;omega) (fun k h=>by have:=(HDG.out k h).1;omega);obtain⟨eb',ec',e1,_,_,c4,hcell⟩:=nQ1 (HH.out.later hbl);cases e1;rw [<- HN.out.1] at c4;have cx:=hcell x j2 HJ.out;have HBL:=hid hbl;have HOW:=hid hown2;clear hgrow hd hbl hown2 hcell;obtain⟨va,vc,rfl⟩:=Grd.ID HOW.out;go_wp2_with fail;go_roundg r.length
   case rel=>exact⟨done++[x],r,j2,by rw [HKS.out];simp,rfl,Gv,HR.out.1,by simpa [Grd.ivs] using HOW.out,HBL.out⟩
   case measure=>have:=HR.out.2;simp at this;omega
theorem YQ0.cell' {kb ko j c:Nat}{ks:List Nat} (h:YQ0 b (some ⟨kb,ko,none⟩) ks w) (hj:ks[j]?=some c):w.cell? ⟨kb,ko+j,none⟩=some (.int .i64 (c:Int)):=by
 obtain⟨_,_,e,hc⟩:=h.cell hj;cases e;exact hc
def Box (b pb:Nat) (k:Int) (q:List UInt8) (w:World):Prop:=pb≠b/\∃ n:Int,w.heap[pb]?=some (.cells #[.int .u8 k,.int .i64 n,.string ⟨q.toArray⟩] 46 (0,0))
theorem Box.kept {pb:Nat}{k:Int}{q:List UInt8} (h:Box b pb k q w) (hk:XQ0 b w w'):Box b pb k q w':=⟨h.1,h.2.elim fun n h2=>⟨n,hk _ _ _ _ h2 h.1 Ch⟩⟩
theorem Box.c0 {pb:Nat}{k:Int}{q:List UInt8} (h:Box b pb k q w):w.cell? ⟨pb,0,none⟩=some (.int .u8 k):=F7
theorem Box.c2 {pb:Nat}{k:Int}{q:List UInt8} (h:Box b pb k q w):w.cell? ⟨pb,2,none⟩=some (.string ⟨q.toArray⟩):=F7
theorem Stp.still (H:St B b l raw E lv rv ev bs w) (hb:Below w.heap.size w w'):Stp B b l raw E lv rv ev bs w w':=⟨H.later hb,hb.mono Ez,XQ0.of_below hb⟩
theorem bapp (a b:List UInt8):(⟨a.toArray⟩:ByteArray)++⟨b.toArray⟩=⟨(a++b).toArray⟩:=by
 apply ByteArray.ext;simp
end Rnd
