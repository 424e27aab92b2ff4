import Derived.Lib.Builder
import Derived.Test.YtcjmpafkcmlhbaaGreatDoorQBR
import Derived.Test.YtcjmpafkcmlhbaaGreatDoorQBI
import Derived.WalkLawsBesides
import Derived.Deep.Onto
namespace Go.Proofs.YtcjmpafkcmlhbaaGreatDoor
open _root_.Go.Lib(hid)
set_option linter.all false
set_option maxHeartbeats 40000000
set_option maxRecDepth 100000
namespace Shp
open Go.RowKit
open Grd (Pt)
variable {w w' w0:World}{l:List Pt}{K:Nat→List Nat}{U:Nat→Option Nat}{T nb:Nat→Nat}{kv:Nat→Value}{i n:Nat}{op:List Nat}{v3 v4:Value}
def nk (l:List Pt) (i:Nat):Int:=((l[i]?).map Pt.n).getD 0
def upd {α:Type} (f:Nat→α) (i:Nat) (x:α):Nat→α:=fun j=>if j=i then x else f j
theorem fD {α:Type} (f:Nat→α) (i:Nat) (x:α):upd f i x i=x:=if_pos rfl
theorem EC {α:Type} (f:Nat→α) {i j:Nat} (x:α) (h:j≠i):upd f i x j=f j:=if_neg h
def TF (l:List Pt) (K:Nat→List Nat):List Nat→List Nat
 | []=>[]
 | t::r=>if ((K t).length:Int)=nk l t then TF l K r else t::r
structure Bst where
 op:List Nat
 U:Nat→Option Nat
 T:Nat→Nat
 K:Nat→List Nat
def sI (l:List Pt) (s:Bst) (i:Nat):Bst :=
 match TF l s.K s.op with
 | []=>⟨[i],upd s.U i none,upd s.T i 0,upd s.K i []⟩
 | t::r=>⟨i::t::r,upd s.U i (some t),upd s.T i (s.K t).length,upd (upd s.K i []) t (s.K t++[i])⟩
def bld (l:List Pt):Nat→Bst
 | 0=>⟨[],fun _=>none,fun _=>0,fun _=>[]⟩
 | i+1=>sI l (bld l i) i
theorem jJ (l:List Pt) (K:Nat→List Nat):∀ (o:List Nat),∃ a,o=a++TF l K o
 | []=>⟨[],rfl⟩
 | t::r=>by
  unfold TF;split
  ·obtain⟨a,h⟩:=jJ l K r;exact⟨t::a,by rw [List.cons_append,← h]⟩
  ·exact⟨[],rfl⟩
theorem OL {o:List Nat}{x:Nat} (h:x∈TF l K o):x∈o:=by
 obtain⟨a,e⟩:=jJ l K o;rw [e];exact List.mem_append_right _ h
theorem YJ (l:List Pt):∀ i:Nat,(∀ x∈(bld l i).op,x < i)∧(∀ j k,k∈(bld l i).K j→j < k∧k < i)∧(bld l i).op.length≤i∧∀ j,((bld l i).K j).length≤i
 | 0=>⟨fun _ h=>(by cases h),fun _ _ h=>(by cases h),Nat.le_refl _,fun _=>Nat.le_refl _⟩
 | i+1=>by
  obtain⟨h1,h2,h3,h4⟩:=YJ l i;have hs:(TF l (bld l i).K (bld l i).op).length≤i:=by
   obtain⟨a,e⟩:=jJ l (bld l i).K (bld l i).op;have:=congrArg List.length e;rw [List.length_append] at this;omega
  have hm:∀ x∈TF l (bld l i).K (bld l i).op,x < i:=fun x hx=>h1 x (OL hx)
  show (∀ x∈(sI l (bld l i) i).op,_)∧(∀ j k,k∈(sI l (bld l i) i).K j→_)∧(sI l (bld l i) i).op.length≤_∧∀ j,((sI l (bld l i) i).K j).length≤_
  unfold sI;split
  ·refine⟨fun x hx=>?_,fun j k hk=>?_,by simp,fun j=>?_⟩
   ·simp at hx;omega
   ·simp only [upd] at hk;split at hk
    ·cases hk
    ·have:=h2 j k hk;omega
   ·simp only [upd];split
    ·simp
    ·have:=h4 j;omega
  ·rename_i t r hp;rw [hp] at hm hs;have ht:=hm t (.head _);refine⟨fun x hx=>?_,fun j k hk=>?_,by simp at hs ⊢;omega,fun j=>?_⟩
   ·rcases List.mem_cons.1 hx with rfl|hx
    ·omega
    ·have:=hm x hx;omega
   ·simp only [upd] at hk;split at hk
    ·rename_i hj;subst hj;rcases List.mem_append.1 hk with hk|hk
     ·have:=h2 j k hk;omega
     ·simp at hk;omega
    ·split at hk
     ·cases hk
     ·have:=h2 j k hk;omega
   ·simp only [upd];split
    ·have:=h4 t;simp;omega
    ·split
     ·simp
     ·have:=h4 j;omega
def jD (nb:Nat→Nat) (ks:List Nat):List Value:=ks.map fun k=>Value.pointer (some ⟨nb k,0,none⟩)
def yM (nb:Nat→Nat) (i n:Nat):List Value:=(List.range n).map fun j=>if j < i then Value.pointer (some ⟨nb j,0,none⟩) else .pointer none
def ndC (l:List Pt) (nb:Nat→Nat) (U:Nat→Option Nat) (T:Nat→Nat) (j:Nat) (p:Pt) (v:Value):Obj :=
 .cells #[.int .u8 (p.k.toNat:Int),.int .i64 p.n,.string ⟨p.w.toArray⟩,.int .i64 (j:Int),RF nb (U j),.int .i64 (T j:Int),v] 76 (0,0)
structure BI (l:List Pt) (w0:World) (op:List Nat) (U:Nat→Option Nat) (T:Nat→Nat) (K:Nat→List Nat) (i n:Nat) (nb:Nat→Nat) (kv:Nat→Value) (v3 v4:Value) (w:World):Prop where
 bel:Below w0.heap.size w0 w
 node:∀ (j:Nat) (p:Pt),j < i→l[j]?=some p→w.heap[nb j]?=some (ndC l nb U T j p (kv j))∧w0.heap.size≤nb j
 row:∀ j,j < i→w.ownsRow w0.heap.size 71 1 (kv j) (K j).length (jD nb (K j))
 all:w.ownsRow w0.heap.size 71 1 v3 n (yM nb i n)
 opn:w.ownsRow w0.heap.size 71 1 v4 op.length (jD nb op.reverse)
 inj:∀ j k,j < i→k < i→j≠k→nb j≠nb k
 sep:∀ j k,j < i→k < i→j≠k→∀ b,(kv j).ownBlock=some b→(kv k).ownBlock≠some b
 s3:∀ j,j < i→∀ b,(kv j).ownBlock=some b→v3.ownBlock≠some b∧v4.ownBlock≠some b
 s34:∀ b,v4.ownBlock=some b→v3.ownBlock≠some b
theorem bF {lo sz m:Nat}{e:TypeId}{v:Value}{xs:List Value} (h:w.ownsRow lo e sz v m xs) (hb:Below w.heap.size w w'):w'.ownsRow lo e sz v m xs:=qD h (Fr.below (X:=[]) hb) (by simp)
theorem BI.below (h:BI l w0 op U T K i n nb kv v3 v4 w) (hb:Below w.heap.size w w'):BI l w0 op U T K i n nb kv v3 v4 w' :=
 ⟨dA h.bel hb,fun j p hj hp=>by
  obtain⟨h1,h2⟩:=h.node j p hj hp;exact⟨(hb.block _ (RA h1)).trans h1,h2⟩,fun j hj=>bF (h.row j hj) hb,bF h.all hb,bF h.opn hb,h.inj,h.sep,h.s3,h.s34⟩
theorem BI.pop {t:Nat}{r:List Nat}{a:Option Addr}{m cap:Nat} (h:BI l w0 (t::r) U T K i n nb kv v3 (.slice a (m+1) cap) w) (hm:m=r.length):BI l w0 r U T K i n nb kv v3 (.slice a m cap) w:=by
 have ho:=h.opn;have hto:=Grd.qL (m:=m) (by omega) (show w.ownsRow w0.heap.size 71 1 (.slice a (m+1) cap) (m+1) (jD nb (t::r).reverse) from by rw [hm];rw [hm] at ho;exact ho);have e:(jD nb (t::r).reverse).take (m*1)=jD nb r.reverse:=by
  rw [hm,Nat.mul_one];unfold jD;rw [List.reverse_cons,List.map_append,List.take_left' (by simp)]
 rw [e] at hto;refine⟨h.bel,h.node,h.row,h.all,by rw [← hm];exact hto,h.inj,h.sep,fun j hj b hb=>⟨(h.s3 j hj b hb).1,?_⟩,fun b hb=>h.s34 b ?_⟩
 ·have:=(h.s3 j hj b hb).2;cases a <;> exact this
 ·cases a <;> exact hb
theorem BI.top {t:Nat}{r:List Nat}{a:Option Addr}{m cap:Nat} (h:BI l w0 (t::r) U T K i n nb kv v3 (.slice a (m+1) cap) w) (hm:m=r.length):∃ b,a=some ⟨b,0,none⟩∧b < w.heap.size∧w.cell? ⟨b,m,none⟩=some (.pointer (some ⟨nb t,0,none⟩))∧m+1≤cap:=by
 have ho:w.ownsRow w0.heap.size 71 1 (.slice a (m+1) cap) (m+1) (jD nb (t::r).reverse):=by have:=h.opn;rw [hm];rw [hm] at this;exact this
 have hx:(jD nb (t::r).reverse)[m]?=some (.pointer (some ⟨nb t,0,none⟩)):=by
  unfold jD;rw [List.reverse_cons,List.map_append,List.getElem?_append_right (by simp [hm])];simp [hm]
 obtain⟨b,rfl,_,hb,hc⟩:=GA ho hx;exact⟨b,rfl,hb,hc,Grd.IK ho⟩
theorem BI.kids (h:BI l w0 op U T K i n nb kv v3 v4 w) {j:Nat}{p:Pt} (hj:j < i) (hp:l[j]?=some p):∃ ka cap,kv j=.slice ka (K j).length cap∧w.cell? ⟨nb j,1,none⟩=some (.int .i64 p.n)∧w.cell? ⟨nb j,6,none⟩=some (.slice ka (K j).length cap):=by
 obtain⟨ka,cap,e⟩:=Grd.ID (h.row j hj);obtain⟨h1,_⟩:=h.node j p hj hp;refine⟨ka,cap,e,?_,?_⟩
 ·unfold World.cell?;rw [h1];rfl
 ·unfold World.cell?;rw [h1,e];rfl
end Shp
namespace Shp
open Go.RowKit
open Grd (Pt)
variable {w w' w0 w1:World}{l:List Pt}{K:Nat→List Nat}{U:Nat→Option Nat}{T nb:Nat→Nat}{kv:Nat→Value}{i n:Nat}{op:List Nat}{v3 v4:Value}
def sJ (v:Value):List Nat:=match v.ownBlock with|some b=>[b]|none=>[]
theorem pK {nb nb':Nat→Nat}{ks:List Nat} (h:∀ k∈ks,nb' k=nb k):jD nb' ks=jD nb ks:=by
 unfold jD;exact List.map_congr_left fun k hk=>by rw [h k hk]
theorem yF {lo m:Nat}{v:Value}{xs:List Value}{b:Nat}{cs:Array Value}{fr:Nat × Nat} (h:w.ownsRow lo 71 1 v m xs) (hb:w.heap[b]?=some (.cells cs 76 fr)):v.ownBlock≠some b:=Go.Lib.ownBlock_ne h hb (by decide)
theorem BI.with' (h:BI l w0 op U T K i n nb kv v3 v4 w) {nb':Nat→Nat}{U':Nat→Option Nat}{T':Nat→Nat}{K':Nat→List Nat}{kv':Nat→Value}
  (hnb:∀ j,j < i→nb' j=nb j) (hU:∀ j,j < i→U' j=U j) (hT:∀ j,j < i→T' j=T j) (hK:∀ j,j < i→K' j=K j) (hkv:∀ j,j < i→kv' j=kv j)
  (hUl:∀ j k,j < i→U j=some k→k < i) (hKl:∀ j k,j < i→k∈K j→nb' k=nb k) (hop:∀ x∈op,nb' x=nb x):BI l w0 op U' T' K' i n nb' kv' v3 v4 w:=by
 refine⟨h.bel,fun j p hj hp=>?_,fun j hj=>?_,?_,?_,fun j k hj hk hjk=>?_,fun j k hj hk hjk b hb=>?_,fun j hj b hb=>?_,h.s34⟩
 ·obtain⟨h1,h2⟩:=h.node j p hj hp;rw [hnb j hj];refine⟨?_,h2⟩;rw [h1];unfold ndC;rw [hU j hj,hT j hj,hkv j hj];cases hu:U j with
  | none=>rfl
  | some k=>simp only [RF,hnb k (hUl j k hj hu)]
 ·rw [hkv j hj,hK j hj,pK (fun k hk=>hKl j k hj hk)];exact h.row j hj
 ·have e:yM nb' i n=yM nb i n:=by
   unfold yM;refine List.map_congr_left fun j _=>?_
   split
   ·rename_i hj;rw [hnb j hj]
   ·rfl
  rw [e];exact h.all
 ·rw [pK (fun k hk=>hop k (List.mem_reverse.1 hk))];exact h.opn
 ·rw [hnb j hj,hnb k hk];exact h.inj j k hj hk hjk
 ·rw [hkv k hk];rw [hkv j hj] at hb;exact h.sep j k hj hk hjk b hb
 ·rw [hkv j hj] at hb;exact h.s3 j hj b hb
theorem BI.frB (h:BI l w0 op U T K i n nb kv v3 v4 w) {b:Nat}{cs:Array Value}{fr:Nat × Nat} (hb:w.heap[b]?=some (.cells cs 76 fr)) (hne:∀ j,j < i→nb j≠b) (hlo:w0.heap.size≤b) (hf:Fr [b] w w'):BI l w0 op U T K i n nb kv v3 v4 w':=by
 have hr:∀ {m:Nat}{v:Value}{xs:List Value},w.ownsRow w0.heap.size 71 1 v m xs→w'.ownsRow w0.heap.size 71 1 v m xs:=fun hx=>qD hx hf (fun x hx2=>by simp at hx2;subst hx2;exact yF hx hb)
 refine⟨GD hf h.bel (fun x hx=>by simp at hx;omega),fun j p hj hp=>?_,fun j hj=>hr (h.row j hj),hr h.all,hr h.opn,h.inj,h.sep,h.s3,h.s34⟩;obtain⟨h1,h2⟩:=h.node j p hj hp;exact⟨hf.at_ (by simp;exact hne j hj) h1,h2⟩
theorem xL {row:Option Nat}{X:List Nat} (h:w.grownBy w1 row) (hX:∀ k,row=some k→k∈X):Fr X w w1:=Fr.grown h hX
theorem BI.kid (h:BI l w0 op U T K i n nb kv v3 v4 w) {t g cap:Nat}{p:Pt} (ht:t < i) (hp:l[t]?=some p) {ks:List Nat} (hg:w.grownBy w1 (kv t).ownBlock) (hw:(kv t).ownBlock=some g∨g=w.heap.size)
  (hown:w1.ownsRow w0.heap.size 71 1 (.slice (some ⟨g,0,none⟩) ks.length cap) ks.length (jD nb ks)) :
  BI l w0 op U T (upd K t ks) i n nb (upd kv t (.slice (some ⟨g,0,none⟩) ks.length cap)) v3 v4 (w1.setCell ⟨nb t,6,none⟩ (.slice (some ⟨g,0,none⟩) ks.length cap)):=by
 obtain⟨hn1,hn2⟩:=h.node t p ht hp;have hf:Fr (sJ (kv t)) w w1:=xL hg (fun k hk=>by unfold sJ;rw [hk];simp);have hntr:(kv t).ownBlock≠some (nb t):=yF (h.row t ht) hn1;have hn1':w1.heap[nb t]?=some (ndC l nb U T t p (kv t)):=hf.at_ (by unfold sJ;cases e:(kv t).ownBlock with|none=>simp|some x=>simp;intro e2;exact hntr (by rw [e,e2])) hn1;have hset:Fr [nb t] w1 (w1.setCell ⟨nb t,6,none⟩ (.slice (some ⟨g,0,none⟩) ks.length cap)):=NA (nb t) 6 w1 _;have hbl:Below w0.heap.size w0 w1:=GD hf h.bel (fun x hx=>by
  unfold sJ at hx;cases e:(kv t).ownBlock with
  | none=>rw [e] at hx;cases hx
  | some y=>rw [e] at hx;simp at hx;subst hx;exact ((h.row t ht).lt _ e).1)
 have hr:∀ {m:Nat}{v:Value}{xs:List Value},w.ownsRow w0.heap.size 71 1 v m xs→(∀ b,(kv t).ownBlock=some b→v.ownBlock≠some b)→(w1.setCell ⟨nb t,6,none⟩ (.slice (some ⟨g,0,none⟩) ks.length cap)).ownsRow w0.heap.size 71 1 v m xs:=fun hx hne=>by
  refine qD (qD hx hf (fun x hx2=>?_)) hset (fun x hx2=>?_)
  ·unfold sJ at hx2;cases e:(kv t).ownBlock with
   | none=>rw [e] at hx2;cases hx2
   | some y=>rw [e] at hx2;simp at hx2;subst hx2;exact hne _ e
  ·simp at hx2;subst hx2;exact yF hx hn1
 have hgn:∀ {m:Nat}{v:Value}{xs:List Value},w.ownsRow w0.heap.size 71 1 v m xs→(∀ b,(kv t).ownBlock=some b→v.ownBlock≠some b)→v.ownBlock≠some g:=fun hx hne=>by
  rcases hw with hw|hw
  ·exact hne g hw
  ·intro e;have:=(hx.lt g e).2;omega
 refine⟨GD hset hbl (fun x hx=>by simp at hx;omega),fun j q hj hq=>?_,fun j hj=>?_,hr h.all (fun b hb=>(h.s3 t ht b hb).1),hr h.opn (fun b hb=>(h.s3 t ht b hb).2),h.inj,fun j k hj hk hjk b hb=>?_,fun j hj b hb=>?_,h.s34⟩
 ·by_cases hjt:j=t
  ·subst hjt;rw [hq] at hp;cases hp;rw [fD];refine⟨?_,hn2⟩;have:=heap_setCell_same w1 (nb j) 6 _ _ (.slice (some ⟨g,0,none⟩) ks.length cap) hn1';rw [this]
   rfl
  ·obtain⟨h1,h2⟩:=h.node j q hj hq;rw [EC _ _ hjt];refine⟨hset.at_ (by simp;exact h.inj j t hj ht hjt) (hf.at_ ?_ h1),h2⟩;unfold sJ;cases e:(kv t).ownBlock with
   | none=>simp
   | some y=>simp;intro e2;exact yF (h.row t ht) h1 (by rw [e,e2])
 ·by_cases hjt:j=t
  ·subst hjt;rw [fD,fD];exact qD hown hset (fun x hx=>by simp at hx;subst hx;exact yF hown hn1')
  ·rw [EC _ _ hjt,EC _ _ hjt];exact hr (h.row j hj) (fun b hb=>h.sep t j ht hj (fun e=>hjt e.symm) b hb)
 ·by_cases hjt:j=t
  ·subst hjt;rw [fD] at hb;rw [EC _ _ (fun e=>hjk e.symm)];have hb2:g=b:=by simpa [Value.ownBlock] using hb
   subst hb2;exact hgn (h.row k hk) (fun b hb=>h.sep j k hj hk hjk b hb)
  ·rw [EC _ _ hjt] at hb;by_cases hkt:k=t
   ·subst hkt;rw [fD];have:=hgn (h.row j hj) (fun b hb=>h.sep k j hk hj (fun e=>hjk e.symm) b hb);intro e;have e2:g=b:=by simpa [Value.ownBlock] using e
    subst e2;exact this hb
   ·rw [EC _ _ hkt];exact h.sep j k hj hk hjk b hb
 ·by_cases hjt:j=t
  ·subst hjt;rw [fD] at hb;have hb2:g=b:=by simpa [Value.ownBlock] using hb
   subst hb2;exact⟨hgn h.all (fun b hb=>(h.s3 j hj b hb).1),hgn h.opn (fun b hb=>(h.s3 j hj b hb).2)⟩
  ·rw [EC _ _ hjt] at hb;exact h.s3 j hj b hb
theorem BI.push (h:BI l w0 op U T K i n nb kv v3 v4 w) {x g cap:Nat} (hg:w.grownBy w1 v4.ownBlock) (hw:v4.ownBlock=some g∨g=w.heap.size)
  (hown:w1.ownsRow w0.heap.size 71 1 (.slice (some ⟨g,0,none⟩) (op.length+1) cap) (op.length+1) (jD nb op.reverse++[.pointer (some ⟨nb x,0,none⟩)])) :
  BI l w0 (x::op) U T K i n nb kv v3 (.slice (some ⟨g,0,none⟩) (op.length+1) cap) w1:=by
 have hf:Fr (sJ v4) w w1:=xL hg (fun k hk=>by unfold sJ;rw [hk];simp);have hbl:Below w0.heap.size w0 w1:=GD hf h.bel (fun x hx=>by
  unfold sJ at hx;cases e:v4.ownBlock with
  | none=>rw [e] at hx;cases hx
  | some y=>rw [e] at hx;simp at hx;subst hx;exact (h.opn.lt _ e).1)
 have hr:∀ {m:Nat}{v:Value}{xs:List Value},w.ownsRow w0.heap.size 71 1 v m xs→(∀ b,v4.ownBlock=some b→v.ownBlock≠some b)→w1.ownsRow w0.heap.size 71 1 v m xs:=fun hx hne=>qD hx hf (fun x hx2=>by
  unfold sJ at hx2;cases e:v4.ownBlock with
  | none=>rw [e] at hx2;cases hx2
  | some y=>rw [e] at hx2;simp at hx2;subst hx2;exact hne _ e)
 have hgn:∀ {m:Nat}{v:Value}{xs:List Value},w.ownsRow w0.heap.size 71 1 v m xs→(∀ b,v4.ownBlock=some b→v.ownBlock≠some b)→v.ownBlock≠some g:=fun hx hne=>by
  rcases hw with hw|hw
  ·exact hne g hw
  ·intro e;have:=(hx.lt g e).2;omega
 have k4:∀ j,j < i→∀ b,v4.ownBlock=some b→(kv j).ownBlock≠some b:=fun j hj b hb e=>(h.s3 j hj b e).2 hb
 refine⟨hbl,fun j p hj hp=>?_,fun j hj=>hr (h.row j hj) (k4 j hj),hr h.all h.s34,?_,h.inj,h.sep,fun j hj b hb=>⟨(h.s3 j hj b hb).1,fun e=>?_⟩,fun b hb=>?_⟩
 ·obtain⟨h1,h2⟩:=h.node j p hj hp;refine⟨hf.at_ ?_ h1,h2⟩;unfold sJ;cases e:v4.ownBlock with
  | none=>simp
  | some y=>simp;intro e2;exact yF h.opn h1 (by rw [e,e2])
 ·have e:jD nb (x::op).reverse=jD nb op.reverse++[.pointer (some ⟨nb x,0,none⟩)]:=by unfold jD;simp
  rw [e];exact hown
 ·have e2:g=b:=by simpa [Value.ownBlock] using e
  subst e2;exact hgn (h.row j hj) (k4 j hj) hb
 ·have e2:g=b:=by simpa [Value.ownBlock] using hb
  subst e2;exact hgn h.all h.s34
theorem SU (nb:Nat→Nat) {i n:Nat} (hi:i < n):(yM nb i n).set i (.pointer (some ⟨nb i,0,none⟩))=yM nb (i+1) n:=by
 unfold yM;refine List.ext_getElem? fun j=>?_
 rw [List.getElem?_set,List.getElem?_map,List.getElem?_map,List.length_map,List.length_range];by_cases hj:i=j
 ·subst hj;rw [if_pos rfl,if_pos hi,List.getElem?_range hi];simp
 ·rw [if_neg hj];rcases Nat.lt_or_ge j n with h|h
  ·rw [List.getElem?_range h];simp only [Option.map_some];by_cases h2:j < i
   ·rw [if_pos h2,if_pos (by omega)]
   ·rw [if_neg h2,if_neg (by omega)]
  ·rw [List.getElem?_eq_none (by simpa using h)];rfl
theorem BI.done (h:BI l w0 op U T K i n nb kv v3 v4 w) {p:Pt}{A cap:Nat} (hp:l[i]?=some p) (hb:w.heap[nb i]?=some (ndC l nb U T i p (kv i))) (hlo:w0.heap.size≤nb i) (hne:∀ j,j < i→nb j≠nb i)
  (hkv:kv i=.slice none 0 0) (hK:K i=[]) (hv3:v3=.slice (some ⟨A,0,none⟩) n cap) (hin:i < n):BI l w0 op U T K (i+1) n nb kv v3 v4 (w.setCell ⟨A,i,none⟩ (.pointer (some ⟨nb i,0,none⟩))):=by
 subst hv3;have hA:=(h.all.lt A rfl);have hset:Fr [A] w (w.setCell ⟨A,i,none⟩ (.pointer (some ⟨nb i,0,none⟩))):=NA A i w _;have hr:∀ {m:Nat}{v:Value}{xs:List Value},w.ownsRow w0.heap.size 71 1 v m xs→v.ownBlock≠some A→(w.setCell ⟨A,i,none⟩ (.pointer (some ⟨nb i,0,none⟩))).ownsRow w0.heap.size 71 1 v m xs:=fun hx hne=>qD hx hset (fun x hx2=>by simp at hx2;subst hx2;exact hne)
 have hAn:∀ {j:Nat}{cs:Array Value}{fr:Nat × Nat},w.heap[j]?=some (.cells cs 76 fr)→j≠A:=fun hx e=>yF h.all hx (by rw [e];rfl)
 refine⟨GD hset h.bel (fun x hx=>by simp at hx;omega),fun j q hj hq=>?_,fun j hj=>?_,?_,hr h.opn (fun e=>h.s34 A e rfl),fun j k hj hk hjk=>?_,fun j k hj hk hjk b hb'=>?_,fun j hj b hb'=>?_,h.s34⟩
 ·by_cases hji:j=i
  ·subst hji;rw [hq] at hp;cases hp;exact⟨hset.at_ (by simp;exact hAn hb) hb,hlo⟩
  ·obtain⟨h1,h2⟩:=h.node j q (by omega) hq;exact⟨hset.at_ (by simp;exact hAn h1) h1,h2⟩
 ·by_cases hji:j=i
  ·subst hji;rw [hkv,hK];exact World.ownsRow_nil _ _ _ _
  ·exact hr (h.row j (by omega)) (fun e=>(h.s3 j (by omega) A e).1 rfl)
 ·rw [← SU nb hin];exact (h.all.stored i _).1
 ·by_cases hji:j=i
  ·subst hji;exact fun e=>hne k (by omega) e.symm
  ·by_cases hki:k=i
   ·subst hki;exact hne j (by omega)
   ·exact h.inj j k (by omega) (by omega) hjk
 ·by_cases hji:j=i
  ·subst hji;rw [hkv] at hb';cases hb'
  ·by_cases hki:k=i
   ·subst hki;rw [hkv];intro e;cases e
   ·exact h.sep j k (by omega) (by omega) hjk b hb'
 ·by_cases hji:j=i
  ·subst hji;rw [hkv] at hb';cases hb'
  ·exact h.s3 j (by omega) b hb'
end Shp
namespace Shp
open Go.RowKit
open Grd (Pt tB)
variable {w w' w0 w1:World}{l:List Pt}
theorem Tryz.infoNP:(Tryz.prog.info? 71).map (fun i=>(i.zero,i.size,i.bytes))=some (some (.pointer none),1,8):=by kernel_rfl
theorem BV (l:List Pt):∀ i j k,(bld l i).U j=some k→k < i
 | 0,_,_,h=>by cases h
 | i+1,j,k,h=>by
  have ih:=BV l i;have hl:=(YJ l i).1;have h:(sI l (bld l i) i).U j=some k:=h;unfold sI at h;split at h
  ·simp only [upd] at h;split at h
   ·cases h
   ·have:=ih j k h;omega
  ·rename_i t' r hp;simp only [upd] at h;split at h
   ·cases h;have:=hl _ (OL (l:=l) (K:=(bld l i).K) (by rw [hp];exact .head _));omega
   ·have:=ih j k h;omega
theorem BI.start {v3:Value}{n:Nat}{nb:Nat→Nat}{kv:Nat→Value} (hg:w.grownBy w1 none) (ho:w1.ownsRow w.heap.size 71 1 v3 n (madeCells (Value.pointer none).cells (n*1)).toList) :
  BI l w (bld l 0).op (bld l 0).U (bld l 0).T (bld l 0).K 0 n nb kv v3 (.slice none 0 0) w1:=by
 have e:(madeCells (Value.pointer none).cells (n*1)).toList=yM nb 0 n:=by
  rw [show (Value.pointer none).cells=#[Value.pointer none] from rfl,toList_madeCells_one,Nat.mul_one];unfold yM;refine List.ext_getElem? fun j=>?_
  rw [List.getElem?_map,List.getElem?_replicate];rcases Nat.lt_or_ge j n with h|h
  ·rw [if_pos h,List.getElem?_range h];rfl
  ·rw [if_neg (by omega),List.getElem?_eq_none (by simpa using h)];rfl
 rw [e] at ho;exact⟨(Below.refl _ _).grown hg (Nat.le_refl _) (fun k h=>by cases h),fun j _ hj=>absurd hj (Nat.not_lt_zero _),fun j hj=>absurd hj (Nat.not_lt_zero _),ho,World.ownsRow_nil _ _ _ _,fun j _ hj=>absurd hj (Nat.not_lt_zero _),fun j _ hj=>absurd hj (Nat.not_lt_zero _),fun j hj=>absurd hj (Nat.not_lt_zero _),fun b hb=>by cases hb⟩
theorem zQ (a:Option Addr) (cap:Nat) (hp:tB w a l) (h0:0 < l.length) (hl:l.length≤1000000000):Calls Tryz.prog 27 #[.slice a l.length cap] w fun e w'=>∃ v3 v4 nb kv,e=.returned v3∧BI l w (bld l l.length).op (bld l l.length).U (bld l l.length).T (bld l l.length).K l.length l.length nb kv v3 v4 w':=by
 obtain⟨i0,hi,hz0,hz1,hz2⟩:=info_parts Tryz.infoNP;obtain⟨pb,off,rfl,hpb,hpc⟩:=hp.resolve_left (fun e=>by rw [e] at h0;cases h0);have HPC:=hid hpc;obtain⟨n,hn⟩:∃ n,n=l.length:=⟨_,rfl⟩;rw [← hn] at h0 hl ⊢;have HN:=hid hn;clear hp hpc hn;go_enter Tryz.func27,Tryz.ntmps27;go_upto_region 4 with (refine wpList_make_full _ rfl _ _ 69 rfl w.heap.size 71 i0 (.pointer none) 1 Tryz.underlying69 hi hz0 hz1 .i64 .i64 n n n rfl rfl rfl rfl (by rw [hz2];omega) (by unfold maxLen;omega) (Nat.le_refl _) ?_;intro w1 hown hgrow);have hB0:=BI.start (l:=l) (nb:=fun _=>0) (kv:=fun _=>.slice none 0 0) hgrow hown;have HB0:=hid hB0;have hA1:=hown.lt _ rfl;clear hown hgrow hB0
 go_loopg [4,13] n (fun q v4 v13 wr=>∃ (i:Nat) (nb:Nat→Nat) (kv:Nat→Value),v13=.int .i64 (i:Int)∧i+q=n∧BI l w (bld l i).op (bld l i).U (bld l i).T (bld l i).K i n nb kv (.slice (some ⟨w.heap.size,0,none⟩) n n) v4 wr)
 case atStart=>exact⟨0,_,_,rfl,by omega,HB0.out⟩
 case round =>
  obtain⟨i,nb,kv,rfl,hq,hBI⟩:=hrel;obtain⟨gko,hgo⟩:∃ x,x=gk:=⟨_,rfl⟩;subst hgo;by_cases hin:i < n
  ·obtain⟨p,hp⟩:=CC (show i < l.length by rw [← HN.out];exact hin);obtain⟨c0,c1,c2⟩:=HPC.out i p hp;have c0:=eN hBI.bel (p:=⟨pb,off+i*3,none⟩) hpb c0;have c1:=eN hBI.bel (p:=⟨pb,off+i*3+1,none⟩) hpb c1;have c2:=eN hBI.bel (p:=⟨pb,off+i*3+2,none⟩) hpb c2;have i0':(0:Int)≤(i:Int):=by omega
   have i1':(i:Int) < (n:Int):=by omega
   have i2':i < 1000000000:=by omega
   have i3':decide (i < n)=true:=decide_eq_true hin;have HBI:=hid hBI;have HQ:=hid hq;have HP:=hid hp;clear hBI hq hp;go_upto_region 7 with fail;obtain⟨O1,hO1⟩:∃ O,O=Obj.cells #[.int .u8 (p.k.toNat:Int),.int .i64 p.n,.string ⟨p.w.toArray⟩] 39 (0,0):=⟨_,rfl⟩;obtain⟨O2,hO2⟩:∃ O,O=Obj.cells #[.int .u8 (p.k.toNat:Int),.int .i64 p.n,.string ⟨p.w.toArray⟩,.int .i64 (i:Int),.pointer none,.int .i64 0,.slice none 0 0] 76 (0,0):=⟨_,rfl⟩;rw [← hO1,← hO2];have hbw:Below wr.heap.size wr ((wr.alloc O1).alloc O2):=((Below.refl _ _).alloc (Nat.le_refl _) O1).alloc (by simp) O2;have hnb:((wr.alloc O1).alloc O2).heap[wr.heap.size+1]?=some O2:=by
    have:=heap_alloc_new (wr.alloc O1) O2;rw [World.size_alloc] at this;exact this
   have hlt:=YJ l i;have hup:=BV l i;have hBN:=HBI.out.below hbw;have hne:∀ j,j < i→nb j≠wr.heap.size+1:=fun j hj e=>by
    obtain⟨q,hq⟩:=CC (show j < l.length by have:=HN.out;omega);have:=RA (HBI.out.node j q hj hq).1;omega
   have hlo:w.heap.size≤wr.heap.size+1:=by have:=HBI.out.bel.size;omega
   have hBN:=hBN.with' (nb':=upd nb i (wr.heap.size+1)) (U':=(bld l i).U) (T':=(bld l i).T) (K':=(bld l i).K) (kv':=upd kv i (.slice none 0 0)) (fun j hj=>EC _ _ (by omega)) (fun _ _=>rfl) (fun _ _=>rfl) (fun _ _=>rfl) (fun j hj=>EC _ _ (by omega)) (fun j k _ h=>hup j k h) (fun j k _ h=>EC _ _ (by have:=(hlt.2.1 j k h).2;omega)) (fun x hx=>EC _ _ (by have:=hlt.1 x hx;omega));have hne':∀ j,j < i→upd nb i (wr.heap.size+1) j≠wr.heap.size+1:=fun j hj=>by rw [EC _ _ (by omega)];exact hne j hj
   have hat':upd nb i (wr.heap.size+1) i=wr.heap.size+1:=fD _ _ _;have hkv':upd kv i (Value.slice none 0 0) i=.slice none 0 0:=fD _ _ _;generalize hbb:wr.heap.size+1=b at *;generalize hwn:(wr.alloc O1).alloc O2=wn at *;generalize upd nb i b=nb' at *;generalize upd kv i (Value.slice none 0 0)=kv' at *;have HF:=hid (And.intro hnb (And.intro hlo (And.intro hne' (And.intro hat' (And.intro hkv' hO2)))));have HL:=hid (And.intro hlt hup);have hop:∀ x∈(bld l i).op,x < i:=hlt.1;obtain⟨op0,hop0⟩:∃ o,o=(bld l i).op:=⟨_,rfl⟩;rw [← hop0] at hBN hop;have HO:=hid hop0;have HBN:=hid (And.intro hBN hop);clear hnb hlo hne hne' hat' hkv' hO1 hO2 hlt hup hop hop0 hBN hbw c0 c1 c2 hbb hwn HBI
   go_loopg [4] (op0.length+1) (fun q v4 wx=>∃ (o:List Nat),o.length+1=q∧TF l (bld l i).K o=TF l (bld l i).K op0∧BI l w o (bld l i).U (bld l i).T (bld l i).K i n nb' kv' (.slice (some ⟨w.heap.size,0,none⟩) n n) v4 wx∧(∀ x∈o,x < i)∧Below wn.heap.size wn wx∧o.length≤op0.length)
   case atStart=>exact⟨op0,rfl,rfl,HBN.out.1,HBN.out.2,Below.refl _ _,Nat.le_refl _⟩
   case round =>
    obtain⟨o,hoq,hpop,hBo,hox,hbl,hol⟩:=hrel;have HBL:=hid hbl;have HLEN:=hid hol;clear hbl hol;have HOQ:=hid hoq;have HPOP:=hid hpop;have HOX:=hid hox;have HBO:=hid hBo;clear hoq hpop hox;obtain⟨va,vc,rfl⟩:=Grd.ID hBo.opn;clear hBo;cases o with
    | nil =>
     go_wp2_with fail;go_big_quiet (fail);obtain⟨W,hW⟩:∃ W,W=wr.drewN nq:=⟨_,rfl⟩;rw [← hW];have hbW:Below wr.heap.size wr W:=by rw [hW];exact Go.below_drewN (Below.refl _ _) nq
     clear hW;have hBW:=HBO.out.below hbW;have hbW:=dA HBL.out hbW;have hown:=hBW.opn;have hsz:=hBW.bel.size;have HBW:=hid (And.intro hBW hbW);clear hBW hbW;go_wp2_with (at_builtin;refine wpList_append_lies _ rfl (.tmp 92) (.tmp 94) 69 rfl w.heap.size 71 i0 _ 1 8 Tryz.underlying69 hi hz0 hz1 hz2 rfl (by omega) (.slice va 0 vc) 0 [] rfl (hown.alloc _) ⟨W.heap.size,0,none⟩ 1 1 [.pointer (some ⟨b,0,none⟩)] rfl rfl (World.news_of_block (cs:=#[.pointer (some ⟨b,0,none⟩)]) (t:=71) (fr:=(0,0)) (heap_alloc_new W _)) (by simp [Value.oneCell']) (by omega) (by unfold maxLen;omega) (by omega) (by simp;omega) (W.heap.size+1) (by simp) ?_);intro gg cap2 w2 hown2 hgrow2 hat2 hlt2;have hpp:TF l (bld l i).K (bld l i).op=[]:=by rw [← HO.out,← HPOP.out];rfl
     obtain⟨h1,h2,h3,h4,h5,h6⟩:=HF.out;have hbO:=(Below.refl W.heap.size W).alloc (Nat.le_refl _) (Obj.cells #[.pointer (some ⟨b,0,none⟩)] 71);have hP:=(HBW.out.1.below hbO).push (x:=i) hgrow2 (by rw [World.size_alloc];exact hat2) (by rw [h4];exact hown2);have hnode:w2.heap[b]?=some O2:=by
      have e1:=(hbO.block _ (RA ((HBW.out.2.block _ (RA h1)).trans h1))).trans ((HBW.out.2.block _ (RA h1)).trans h1);refine (hgrow2.block b (RA e1) ?_).trans e1;intro e;rw [h6] at e1;exact yF (bF HBW.out.1.opn hbO) e1 e.symm
     have hall:=hP.all;have s1:=hall.cellAt i (by omega);obtain⟨s2,hs2⟩:∃ s2,w2.cell? ⟨w.heap.size,i,none⟩=some s2:=by
      rw [s1];exact⟨_,List.getElem?_eq_getElem (by rw [hall.1];omega)⟩
     have s3:=hall.frozenAt i;have HPP:=hid (And.intro hP (And.intro hnode hpp));clear hP hnode hpp hall s1 hown2 hgrow2 hat2 hbO h1 h2 h3 h4 h5 h6 hown;go_wp2_with fail;go_roundg (gko - 1)
     case measure=>have:=HQ.out;omega
     case rel =>
      obtain⟨hP,hnode,hpp⟩:=HPP.out;obtain⟨h1,h2,h3,h4,h5,h6⟩:=HF.out;have hadd:bld l (i+1)=⟨[i],upd (bld l i).U i none,upd (bld l i).T i 0,upd (bld l i).K i []⟩:=by
       show sI l (bld l i) i=_
       unfold sI;rw [hpp]
      refine⟨i+1,nb',kv',by simp,by have:=HQ.out;omega,?_⟩;rw [hadd];have hX:=hP.with' (nb':=nb') (U':=upd (bld l i).U i none) (T':=upd (bld l i).T i 0) (K':=upd (bld l i).K i []) (kv':=kv') (fun _ _=>rfl) (fun j hj=>EC _ _ (by omega)) (fun j hj=>EC _ _ (by omega)) (fun j hj=>EC _ _ (by omega)) (fun _ _=>rfl) (fun j k _ h=>HL.out.2 j k h) (fun _ _ _ _=>rfl) (fun _ _=>rfl);have hD:=hX.done HP.out (by rw [h4,hnode,h6,h5];unfold ndC;rw [fD,fD];rfl) (by rw [h4];exact h2) (fun j hj=>by rw [h4];exact h3 j hj) h5 (fD _ _ _) rfl hin;rw [h4] at hD;exact hD
    | cons t r =>
     have hBo:=HBO.out;have ht:t < i:=HOX.out t (.head _);obtain⟨pt,hpt⟩:=CC (show t < l.length by have:=HN.out;omega);obtain⟨tb,rfl,htb,c1,hcap⟩:=BI.top (m:=r.length) hBo rfl;obtain⟨ka,kcap,ek,d1,d6⟩:=hBo.kids ht hpt;have hnk:nk l t=pt.n:=by unfold nk;rw [hpt];rfl
     obtain⟨KT,hKT⟩:∃ KT,KT=((bld l i).K t).length:=⟨_,rfl⟩;have hKl:KT≤i:=by rw [hKT];exact HL.out.1.2.2.2 t
     rw [← hKT] at d6;have hrl:r.length+1≤i:=by
      have h1:=HL.out.1.2.2.1;have h6:=HLEN.out;rw [HO.out] at h6;simp only [List.length_cons] at h6;omega
     obtain⟨M,hM⟩:∃ M,M=r.length+1:=⟨_,rfl⟩;obtain⟨m,hm⟩:∃ m,m=r.length:=⟨_,rfl⟩;have z1:IntKind.i64.wrap ((M:Int) - 1)=(m:Int):=by simp [IntKind.wrap,IntKind.bits,IntKind.signed];omega
     have z2:(0:Int)≤(m:Int):=by omega
     have z3:(m:Int) < (M:Int):=by omega
     have z4:decide ((0:Int) < (M:Int))=true:=decide_eq_true (by omega);have z5:(m:Int)≤(vc:Int):=by omega
     have z6:decide (0 < M)=true:=decide_eq_true (by omega);have eM:(t::r).length=M:=by rw [hM];rfl
     rw [eM];rw [← hm] at c1;have HM:=hid (And.intro hM hm);have HT:=hid (And.intro ht (And.intro hpt (And.intro ek hKT)));clear hBo hrl hM hm ek hKT hcap;cases hf:(((KT:Int))==pt.n) with
     | true =>
      have hpop2:TF l (bld l i).K (t::r)=TF l (bld l i).K r:=by
       have h1:=beq_iff_eq.1 hf;rw [TF,if_pos (by rw [hnk,← HT.out.2.2.2];exact h1)]
      have HP2:=hid (And.intro hpop2 hnk);clear hpop2 hnk eM;go_wp2_with fail;go_big_quiet (fail);have hbq:=Go.below_drewN (Below.refl wr.heap.size wr) nq;go_wp2_with fail;go_roundg (gk - 1)
      case measure=>have:=HOQ.out;simp only [List.length_cons] at this;omega
      case rel =>
       refine⟨r,by have:=HOQ.out;simp only [List.length_cons] at this;omega,by rw [← HP2.out.1];exact HPOP.out,?_,fun x hx=>HOX.out x (.tail _ hx),dA HBL.out hbq,by have:=HLEN.out;simp only [List.length_cons] at this;omega⟩;have h1:=(HBO.out.below hbq).pop rfl;rw [← HM.out.2] at h1;exact h1
     | false =>
      have hpp:TF l (bld l i).K (bld l i).op=t::r:=by
       rw [← HO.out,← HPOP.out];rw [TF,if_neg];intro e;rw [hnk,← HT.out.2.2.2] at e;rw [e] at hf;simp at hf
      have HPPP:=hid hpp;clear hpp hnk eM;go_wp2_with fail;go_big_quiet (fail);obtain⟨W,hW⟩:∃ W,W=wr.drewN nq:=⟨_,rfl⟩;rw [← hW];have hbW:Below wr.heap.size wr W:=by rw [hW];exact Go.below_drewN (Below.refl _ _) nq
      clear hW;have c1:=aA hbW c1;have d6:=aA hbW d6;obtain⟨h1,h2,h3,h4,h5,h6⟩:=HF.out;have hbn:=dA HBL.out hbW;have e1:=(hbn.block _ (RA h1)).trans h1;rw [h6] at e1;have f4:W.cell? ⟨b,4,none⟩=some (.pointer none):=by unfold World.cell?;rw [e1];rfl
      have f5:W.cell? ⟨b,5,none⟩=some (.int .i64 0):=by unfold World.cell?;rw [e1];rfl
      have g4:W.frozen? ⟨b,4,none⟩=false:=by unfold World.frozen?;rw [e1];simp
      have HBW:=hid (And.intro (HBO.out.below hbW) (And.intro e1 (And.intro (h3 t ht) h2)));clear hbW hbn e1 h1 h2 h3 h4 h5 h6 d1 hf f5;go_upto_region 11 with fail;obtain⟨W1,hW1⟩:∃ W1,W1=W.setCell ⟨b,4,none⟩ (.pointer (some ⟨nb' t,0,none⟩)):=⟨_,rfl⟩;rw [← hW1];have s1:W1.heap[b]?=some (.cells #[.int .u8 (p.k.toNat:Int),.int .i64 p.n,.string ⟨p.w.toArray⟩,.int .i64 (i:Int),.pointer (some ⟨nb' t,0,none⟩),.int .i64 0,.slice none 0 0] 76 (0,0)):=by
       rw [hW1];have:=heap_setCell_same W b 4 _ _ (.pointer (some ⟨nb' t,0,none⟩)) HBW.out.2.1;rw [this];rfl
      have hfr:Fr [b] W W1:=by rw [hW1];exact NA b 4 W _
      have hB1:=HBW.out.1.frB HBW.out.2.1 (fun j hj=>HF.out.2.2.1 j hj) HBW.out.2.2.2 hfr;have d6:=hfr.cell (by simp;exact HBW.out.2.2.1) d6;have f4:W1.cell? ⟨b,4,none⟩=some (.pointer (some ⟨nb' t,0,none⟩)):=by unfold World.cell?;rw [s1];rfl
      have f5:W1.cell? ⟨b,5,none⟩=some (.int .i64 0):=by unfold World.cell?;rw [s1];rfl
      have g5:W1.frozen? ⟨b,5,none⟩=false:=by unfold World.frozen?;rw [s1];simp
      have HB1:=hid (And.intro hB1 s1);clear hW1 s1 hfr hB1 c1 g4;go_upto_region 12 with fail;obtain⟨W2,hW2⟩:∃ W2,W2=W1.setCell ⟨b,5,none⟩ (.int .i64 (KT:Int)):=⟨_,rfl⟩;rw [← hW2];have s1:W2.heap[b]?=some (.cells #[.int .u8 (p.k.toNat:Int),.int .i64 p.n,.string ⟨p.w.toArray⟩,.int .i64 (i:Int),.pointer (some ⟨nb' t,0,none⟩),.int .i64 (KT:Int),.slice none 0 0] 76 (0,0)):=by
       rw [hW2];have:=heap_setCell_same W1 b 5 _ _ (.int .i64 (KT:Int)) HB1.out.2;rw [this];rfl
      have hfr:Fr [b] W1 W2:=by rw [hW2];exact NA b 5 W1 _
      have hB2:=HB1.out.1.frB HB1.out.2 (fun j hj=>HF.out.2.2.1 j hj) HBW.out.2.2.2 hfr;have d6:=hfr.cell (by simp;exact HBW.out.2.2.1) d6;have q4:W2.cell? ⟨b,4,none⟩=some (.pointer (some ⟨nb' t,0,none⟩)):=by unfold World.cell?;rw [s1];rfl
      have HB2:=hid (And.intro hB2 s1);have hrow:W2.ownsRow w.heap.size 71 1 (.slice ka KT kcap) KT (jD nb' ((bld l i).K t)):=by
       have:=HB2.out.1.row t HT.out.1;rw [HT.out.2.2.1,← HT.out.2.2.2] at this;exact this
      have hbt:nb' t≠b:=HBW.out.2.2.1;have htl:=RA (HB2.out.1.node t pt HT.out.1 HT.out.2.1).1;have hbl2:=RA s1;have hob:(Value.slice ka KT kcap).ownBlock≠some b:=yF hrow s1;have hot:(Value.slice ka KT kcap).ownBlock≠some (nb' t):=yF hrow (HB2.out.1.node t pt HT.out.1 HT.out.2.1).1;have hal:∀ o:Obj,(W2.alloc o).drew.cell? ⟨b,4,none⟩=W2.cell? ⟨b,4,none⟩:=fun o=>World.cell?_of_block (a:=⟨b,4,none⟩) (((Below.refl W2.heap.size W2).alloc (Nat.le_refl _) o).drew.block b hbl2)
      have hal6:∀ o:Obj,(W2.alloc o).drew.cell? ⟨nb' t,6,none⟩=W2.cell? ⟨nb' t,6,none⟩:=fun o=>World.cell?_of_block (a:=⟨nb' t,6,none⟩) (((Below.refl W2.heap.size W2).alloc (Nat.le_refl _) o).drew.block (nb' t) htl)
      have hfz6:∀ o:Obj,(W2.alloc o).drew.frozen? ⟨nb' t,6,none⟩=false:=fun o=>by
       have e:=(((Below.refl W2.heap.size W2).alloc (Nat.le_refl _) o).drew.block (nb' t) htl).trans (HB2.out.1.node t pt HT.out.1 HT.out.2.1).1;unfold World.frozen?;rw [e];simp [ndC]
      have hsz:w.heap.size≤W2.heap.size:=HB2.out.1.bel.size;have HKID:Hid (∀ (gg cap2:Nat) (w2:World),w2.ownsRow w.heap.size 71 1 (.slice (some ⟨gg,0,none⟩) (KT+1) cap2) (KT+1) (jD nb' ((bld l i).K t)++[.pointer (some ⟨b,0,none⟩)])→((W2.alloc (Obj.cells #[.pointer (some ⟨b,0,none⟩)] 71)).drew).grownBy w2 (Value.slice ka KT kcap).ownBlock→((Value.slice ka KT kcap).ownBlock=some gg∨gg=W2.heap.size+1) →
        ∃ kv2:Nat→Value,kv2 i=.slice none 0 0∧BI l w (t::r) (bld l i).U (bld l i).T (upd (bld l i).K t ((bld l i).K t++[i])) i n nb' kv2 (.slice (some ⟨w.heap.size,0,none⟩) n n) (.slice (some ⟨tb,0,none⟩) M vc) (w2.setCell ⟨nb' t,6,none⟩ (.slice (some ⟨gg,0,none⟩) (KT+1) cap2)) ∧
         (w2.setCell ⟨nb' t,6,none⟩ (.slice (some ⟨gg,0,none⟩) (KT+1) cap2)).heap[b]?=some (.cells #[.int .u8 (p.k.toNat:Int),.int .i64 p.n,.string ⟨p.w.toArray⟩,.int .i64 (i:Int),.pointer (some ⟨nb' t,0,none⟩),.int .i64 (KT:Int),.slice none 0 0] 76 (0,0))):=hid (fun gg cap2 w2 hown2 hgrow2 hat2=>by
       have hbO:=((Below.refl W2.heap.size W2).alloc (Nat.le_refl _) (Obj.cells #[.pointer (some ⟨b,0,none⟩)] 71)).drew;have hBX:=HB2.out.1.below hbO;have hek:=HT.out.2.2.1;rw [← HT.out.2.2.2] at hek;have hlen:((bld l i).K t++[i]).length=KT+1:=by rw [List.length_append,← HT.out.2.2.2];rfl
       have e0:jD nb' ((bld l i).K t++[i])=jD nb' ((bld l i).K t)++[.pointer (some ⟨b,0,none⟩)]:=by unfold jD;rw [List.map_append];simp [HF.out.2.2.2.1]
       have hk:=hBX.kid (g:=gg) (cap:=cap2) (ks:=(bld l i).K t++[i]) HT.out.1 HT.out.2.1 (by rw [hek];exact hgrow2) (by rw [hek];rcases hat2 with h|h;exact .inl h;exact .inr (by rw [h];exact (World.size_alloc W2 _).symm)) (by rw [hlen,e0];exact hown2);rw [hlen,show (t::r).length=M from by rw [HM.out.1];rfl] at hk;refine⟨_,?_,hk,?_⟩
       ·rw [EC _ _ (by have:=HT.out.1;omega)];exact HF.out.2.2.2.2.1
       ·have hfs:Fr [nb' t] w2 (w2.setCell ⟨nb' t,6,none⟩ (.slice (some ⟨gg,0,none⟩) (KT+1) cap2)):=NA (nb' t) 6 w2 _;refine hfs.at_ (by simp;exact fun e=>HBW.out.2.2.1 e.symm) ?_;have e2:=(hbO.block _ (RA HB2.out.2)).trans HB2.out.2;refine (hgrow2.block b (RA e2) ?_).trans e2;intro e;have h9:=HB2.out.1.row t HT.out.1;rw [hek] at h9;exact yF h9 HB2.out.2 e.symm)
      clear hW2 s1 hfr hB2 f4 f5 g5
      go_cut [] from 76 to 91 (fun wx=>∃ kv2:Nat→Value,kv2 i=.slice none 0 0∧BI l w (t::r) (bld l i).U (bld l i).T (upd (bld l i).K t ((bld l i).K t++[i])) i n nb' kv2 (.slice (some ⟨w.heap.size,0,none⟩) n n) (.slice (some ⟨tb,0,none⟩) M vc) wx∧wx.heap[b]?=some (.cells #[.int .u8 (p.k.toNat:Int),.int .i64 p.n,.string ⟨p.w.toArray⟩,.int .i64 (i:Int),.pointer (some ⟨nb' t,0,none⟩),.int .i64 (KT:Int),.slice none 0 0] 76 (0,0)))
      case first =>
       refine wp_region_held_drew (S:=fun w'=>w'.cell? ⟨b,4,none⟩=some (.pointer (some ⟨nb' t,0,none⟩))) (by kernel_rfl) ?_ (fun hHeld=>?_)
       ·((try dsimp only);(first|exact q4|exact (hal _).trans q4|exact hap.trans q4|exact hst.trans q4))
       refine tk 0 ?_;try simp only [Act.put,ls]
       refine tk 1 ?_;try simp only [Act.put,ls]
       refine tk 2 ?_;try simp only [Act.put,ls]
       refine tk 3 ?_;try simp only [Act.put,ls]
       refine tk 4 ?_;try simp only [Act.put,ls]
       refine tk 5 ?_;try simp only [Act.put,ls]
       refine tk 6 ?_;try simp only [Act.put,ls]
       refine tk 7 ?_;try simp only [Act.put,ls]
       refine tk 8 ?_;try simp only [Act.put,ls]
       refine tk 9 ?_;try simp only [Act.put,ls]
       refine tk 11 ?_;try simp only [Act.put,ls]
       refine wpAnyH_ready (rs:=[10,12]) (by kernel_rfl) (by simp) (AllReadyH.cons (o:=?_) ?_ (fun K hK=>?_) (AllReadyH.cons (o:=?_) ?_ (fun K hK=>?_) AllReadyH.nil))
       rotate_left
       ·(first|(simp only [List.getElem?_toArray,List.getElem?_cons_succ,List.getElem?_cons_zero];done)|(simp only [List.getElem?_toArray,List.getElem?_cons_succ,List.getElem?_cons_zero];exact rfl))
       rotate_left 2
       ·(first|(simp only [List.getElem?_toArray,List.getElem?_cons_succ,List.getElem?_cons_zero];done)|(simp only [List.getElem?_toArray,List.getElem?_cons_succ,List.getElem?_cons_zero];exact rfl))
       ·skip
        go_simp;go_wp2_with fail;refine hK.out _ _ ?_ (fun hHeld12=>?_)
        ·((try dsimp only);(first|exact q4|exact (hal _).trans q4|exact hap.trans q4|exact hst.trans q4))
        clear hK K
        try simp only [Act.put,ls]
        refine wpAnyH_ready (rs:=[10]) (by kernel_rfl) (by simp) (AllReadyH.cons (o:=?_) ?_ (fun K hK=>?_) AllReadyH.nil)
        rotate_left
        ·(first|(simp only [List.getElem?_toArray,List.getElem?_cons_succ,List.getElem?_cons_zero];done)|(simp only [List.getElem?_toArray,List.getElem?_cons_succ,List.getElem?_cons_zero];exact rfl))
        go_simp;go_wp2_with fail;refine hK.out _ _ ?_ (fun hHeld10=>?_)
        ·((try dsimp only);(first|exact q4|exact (hal _).trans q4|exact hap.trans q4|exact hst.trans q4))
        clear hK K
        try simp only [Act.put,ls]
        refine wpAnyH_ready (rs:=[13]) (by kernel_rfl) (by simp) (AllReadyH.cons (o:=?_) ?_ (fun K hK=>?_) AllReadyH.nil)
        rotate_left
        ·(first|(simp only [List.getElem?_toArray,List.getElem?_cons_succ,List.getElem?_cons_zero];done)|(simp only [List.getElem?_toArray,List.getElem?_cons_succ,List.getElem?_cons_zero];exact rfl))
        refine step_append_lies _ (by rfl) _ _ _ (by rfl) w.heap.size 71 i0 _ 1 8 Tryz.underlying69 hi hz0 hz1 hz2 rfl (by omega) (.slice ka KT kcap) KT (jD nb' ((bld l i).K t)) (by rfl) ((hrow.alloc _).drew) ⟨W2.heap.size,0,none⟩ 1 1 [.pointer (some ⟨b,0,none⟩)] (by rfl) (by rfl) (World.news_of_block (cs:=#[.pointer (some ⟨b,0,none⟩)]) (t:=71) (fr:=(0,0)) (heap_alloc_new W2 _)) (by simp [Value.oneCell']) (by omega) (by unfold maxLen;omega) (by omega) (by simp;omega) (W2.heap.size+1) (by simp) ?_;intro gg cap2 w2 hown2 hgrow2 hat2 hlt2;have hap:w2.cell? ⟨b,4,none⟩=W2.cell? ⟨b,4,none⟩:=(hgrow2.cell_far ⟨b,4,none⟩ (by simp;omega) (Ne.symm hob)).trans (hal _);have k6:w2.cell? ⟨nb' t,6,none⟩=some (.slice ka KT kcap):=(hgrow2.cell_far ⟨nb' t,6,none⟩ (by simp;omega) (Ne.symm hot)).trans ((hal6 _).trans d6);have z6:w2.frozen? ⟨nb' t,6,none⟩=false:=(hgrow2.frozen_far ⟨nb' t,6,none⟩ (by simp;omega) (Ne.symm hot)).trans (hfz6 _);have hst:(w2.setCell ⟨nb' t,6,none⟩ (.slice (some ⟨gg,0,none⟩) (KT+1) cap2)).cell? ⟨b,4,none⟩=W2.cell? ⟨b,4,none⟩:=(World.cell?_setCell_far w2 ⟨nb' t,6,none⟩ ⟨b,4,none⟩ _ hbt).trans hap;have HPS:=hid (HKID.out gg cap2 w2 hown2 hgrow2 hat2);refine hK.out _ _ ?_ (fun hHeld13=>?_)
        ·((try dsimp only);(first|exact q4|exact (hal _).trans q4|exact hap.trans q4|exact hst.trans q4))
        clear hK K
        try simp only [Act.put,ls]
        refine tk 14 ?_;try simp only [Act.put,ls]
        refine tk 15 ?_;try simp only [Act.put,ls]
        refine wpAnyH_ready (rs:=[16]) (by kernel_rfl) (by simp) (AllReadyH.cons (o:=?_) ?_ (fun K hK=>?_) AllReadyH.nil)
        rotate_left
        ·(first|(simp only [List.getElem?_toArray,List.getElem?_cons_succ,List.getElem?_cons_zero];done)|(simp only [List.getElem?_toArray,List.getElem?_cons_succ,List.getElem?_cons_zero];exact rfl))
        go_simp;go_wp2_with fail;refine hK.out _ _ ?_ (fun hHeld16=>?_)
        ·((try dsimp only);(first|exact q4|exact (hal _).trans q4|exact hap.trans q4|exact hst.trans q4))
        clear hK K
        try simp only [Act.put,ls]
        refine wpAnyH_done (by kernel_rfl) ?_ _;go_wp2_with fail
        go_meet
        case rel=>exact HPS.out
       ·skip
        go_simp;go_wp2_with fail;refine hK.out _ _ ?_ (fun hHeld10=>?_)
        ·((try dsimp only);(first|exact q4|exact (hal _).trans q4|exact hap.trans q4|exact hst.trans q4))
        clear hK K
        try simp only [Act.put,ls]
        refine wpAnyH_ready (rs:=[12]) (by kernel_rfl) (by simp) (AllReadyH.cons (o:=?_) ?_ (fun K hK=>?_) AllReadyH.nil)
        rotate_left
        ·(first|(simp only [List.getElem?_toArray,List.getElem?_cons_succ,List.getElem?_cons_zero];done)|(simp only [List.getElem?_toArray,List.getElem?_cons_succ,List.getElem?_cons_zero];exact rfl))
        go_simp;go_wp2_with fail;refine hK.out _ _ ?_ (fun hHeld12=>?_)
        ·((try dsimp only);(first|exact q4|exact (hal _).trans q4|exact hap.trans q4|exact hst.trans q4))
        clear hK K
        try simp only [Act.put,ls]
        refine wpAnyH_ready (rs:=[13]) (by kernel_rfl) (by simp) (AllReadyH.cons (o:=?_) ?_ (fun K hK=>?_) AllReadyH.nil)
        rotate_left
        ·(first|(simp only [List.getElem?_toArray,List.getElem?_cons_succ,List.getElem?_cons_zero];done)|(simp only [List.getElem?_toArray,List.getElem?_cons_succ,List.getElem?_cons_zero];exact rfl))
        refine step_append_lies _ (by rfl) _ _ _ (by rfl) w.heap.size 71 i0 _ 1 8 Tryz.underlying69 hi hz0 hz1 hz2 rfl (by omega) (.slice ka KT kcap) KT (jD nb' ((bld l i).K t)) (by rfl) ((hrow.alloc _).drew) ⟨W2.heap.size,0,none⟩ 1 1 [.pointer (some ⟨b,0,none⟩)] (by rfl) (by rfl) (World.news_of_block (cs:=#[.pointer (some ⟨b,0,none⟩)]) (t:=71) (fr:=(0,0)) (heap_alloc_new W2 _)) (by simp [Value.oneCell']) (by omega) (by unfold maxLen;omega) (by omega) (by simp;omega) (W2.heap.size+1) (by simp) ?_;intro gg cap2 w2 hown2 hgrow2 hat2 hlt2;have hap:w2.cell? ⟨b,4,none⟩=W2.cell? ⟨b,4,none⟩:=(hgrow2.cell_far ⟨b,4,none⟩ (by simp;omega) (Ne.symm hob)).trans (hal _);have k6:w2.cell? ⟨nb' t,6,none⟩=some (.slice ka KT kcap):=(hgrow2.cell_far ⟨nb' t,6,none⟩ (by simp;omega) (Ne.symm hot)).trans ((hal6 _).trans d6);have z6:w2.frozen? ⟨nb' t,6,none⟩=false:=(hgrow2.frozen_far ⟨nb' t,6,none⟩ (by simp;omega) (Ne.symm hot)).trans (hfz6 _);have hst:(w2.setCell ⟨nb' t,6,none⟩ (.slice (some ⟨gg,0,none⟩) (KT+1) cap2)).cell? ⟨b,4,none⟩=W2.cell? ⟨b,4,none⟩:=(World.cell?_setCell_far w2 ⟨nb' t,6,none⟩ ⟨b,4,none⟩ _ hbt).trans hap;have HPS:=hid (HKID.out gg cap2 w2 hown2 hgrow2 hat2);refine hK.out _ _ ?_ (fun hHeld13=>?_)
        ·((try dsimp only);(first|exact q4|exact (hal _).trans q4|exact hap.trans q4|exact hst.trans q4))
        clear hK K
        try simp only [Act.put,ls]
        refine tk 14 ?_;try simp only [Act.put,ls]
        refine tk 15 ?_;try simp only [Act.put,ls]
        refine wpAnyH_ready (rs:=[16]) (by kernel_rfl) (by simp) (AllReadyH.cons (o:=?_) ?_ (fun K hK=>?_) AllReadyH.nil)
        rotate_left
        ·(first|(simp only [List.getElem?_toArray,List.getElem?_cons_succ,List.getElem?_cons_zero];done)|(simp only [List.getElem?_toArray,List.getElem?_cons_succ,List.getElem?_cons_zero];exact rfl))
        go_simp;go_wp2_with fail;refine hK.out _ _ ?_ (fun hHeld16=>?_)
        ·((try dsimp only);(first|exact q4|exact (hal _).trans q4|exact hap.trans q4|exact hst.trans q4))
        clear hK K
        try simp only [Act.put,ls]
        refine wpAnyH_done (by kernel_rfl) ?_ _;go_wp2_with fail
        go_meet
        case rel=>exact HPS.out
      case rest =>
       obtain⟨kv2,hk2,hBI3,hn3⟩:=hcut;have eM:(t::r).length=M:=by rw [HM.out.1];rfl
       have hown:=hBI3.opn;rw [eM] at hown;have hsz2:=hBI3.bel.size;have hM9:M≤1000000000:=by
        have h6:=HLEN.out;have h1:=HL.out.1.2.2.1;rw [HO.out] at h6;have:=eM;omega
       have HB3:=hid (And.intro hBI3 (And.intro hn3 (And.intro hk2 eM)));clear hBI3 hn3 hk2 hrow hob hot hal hal6 hfz6 HKID q4 d6 htl hbl2 hsz eM z1 z2 z3 z4 z5 z6;go_wp2_with (at_builtin;refine wpList_append_lies _ rfl (.tmp 92) (.tmp 94) 69 rfl w.heap.size 71 i0 _ 1 8 Tryz.underlying69 hi hz0 hz1 hz2 rfl (by omega) (.slice (some ⟨tb,0,none⟩) M vc) M (jD nb' (t::r).reverse) rfl (hown.alloc _) ⟨wc.heap.size,0,none⟩ 1 1 [.pointer (some ⟨b,0,none⟩)] rfl rfl (World.news_of_block (cs:=#[.pointer (some ⟨b,0,none⟩)]) (t:=71) (fr:=(0,0)) (heap_alloc_new wc _)) (by simp [Value.oneCell']) (by omega) (by unfold maxLen;omega) (by omega) (by simp;omega) (wc.heap.size+1) (by simp) ?_);intro gg cap2 w2 hown2 hgrow2 hat2 hlt2;obtain⟨h1,h2,h3,h4,h5,h6⟩:=HF.out;have hbO:=(Below.refl wc.heap.size wc).alloc (Nat.le_refl _) (Obj.cells #[.pointer (some ⟨b,0,none⟩)] 71);have hP:=(HB3.out.1.below hbO).push (x:=i) (g:=gg) (cap:=cap2) hgrow2 (by rw [World.size_alloc];exact hat2) (by rw [h4,HB3.out.2.2.2,List.reverse_cons];exact hown2);rw [HB3.out.2.2.2] at hP;have hnode:w2.heap[b]?=some (.cells #[.int .u8 (p.k.toNat:Int),.int .i64 p.n,.string ⟨p.w.toArray⟩,.int .i64 (i:Int),.pointer (some ⟨nb' t,0,none⟩),.int .i64 (KT:Int),.slice none 0 0] 76 (0,0)):=by
        have e1:=(hbO.block _ (RA HB3.out.2.1)).trans HB3.out.2.1;refine (hgrow2.block b (RA e1) ?_).trans e1;intro e;exact yF (bF HB3.out.1.opn hbO) e1 e.symm
       have hall:=hP.all;have s1:=hall.cellAt i (by omega);obtain⟨s2,hs2⟩:∃ s2,w2.cell? ⟨w.heap.size,i,none⟩=some s2:=by
        rw [s1];exact⟨_,List.getElem?_eq_getElem (by rw [hall.1];omega)⟩
       have s3:=hall.frozenAt i;have HPP:=hid (And.intro hP hnode);clear hP hnode hall s1 hown2 hgrow2 hat2 hbO h1 h2 h3 h4 h5 h6 hown;go_wp2_with fail;go_roundg (gko - 1)
       case measure=>have:=HQ.out;omega
       case rel =>
        obtain⟨hP,hnode⟩:=HPP.out;obtain⟨h1,h2,h3,h4,h5,h6⟩:=HF.out;have hti:t≠i:=by have:=HT.out.1;omega
        have hadd:bld l (i+1)=⟨i::t::r,upd (bld l i).U i (some t),upd (bld l i).T i ((bld l i).K t).length,upd (upd (bld l i).K i []) t ((bld l i).K t++[i])⟩:=by
         show sI l (bld l i) i=_
         unfold sI;rw [HPPP.out]
        refine⟨i+1,nb',kv2,by simp,by have:=HQ.out;omega,?_⟩;rw [hadd];have hX:=hP.with' (nb':=nb') (U':=upd (bld l i).U i (some t)) (T':=upd (bld l i).T i ((bld l i).K t).length) (K':=upd (upd (bld l i).K i []) t ((bld l i).K t++[i])) (kv':=kv2) (fun _ _=>rfl) (fun j hj=>EC _ _ (by omega)) (fun j hj=>EC _ _ (by omega)) (fun j hj=>by
         by_cases hjt:j=t
         ·subst hjt;rw [fD,fD]
         ·rw [EC _ _ hjt,EC _ _ hjt,EC _ _ (by omega)]) (fun _ _=>rfl) (fun j k _ h=>HL.out.2 j k h) (fun _ _ _ _=>rfl) (fun _ _=>rfl)
        have hD:=hX.done HP.out (by rw [h4,hnode,HB3.out.2.2.1];unfold ndC;rw [fD,fD,← HT.out.2.2.2];rfl) (by rw [h4];exact h2) (fun j hj=>by rw [h4];exact h3 j hj) HB3.out.2.2.1 (by rw [EC _ _ (fun e=>hti e.symm),fD]) rfl hin;rw [h4] at hD;exact hD
  ·have hil:i=n:=by omega
   have i3':decide (i < n)=false:=decide_eq_false hin;have HBI:=hid hBI;clear hBI;go_wp2_with fail;go_ret;have hf:=HBI.out;rw [hil] at hf
   first|exact⟨_,_,nb,kv,rfl,hf⟩|exact⟨_,rfl,_,nb,kv,hf⟩|exact⟨_,_,_,_,rfl,hf⟩
end Shp
end Go.Proofs.YtcjmpafkcmlhbaaGreatDoor
