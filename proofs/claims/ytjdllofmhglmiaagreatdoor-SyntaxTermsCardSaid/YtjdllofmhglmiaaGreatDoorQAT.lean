import Derived.Test.YtjdllofmhglmiaaGreatDoorQAB
import Derived.Test.YtjdllofmhglmiaaGreatDoorQAS
namespace Go.Proofs.YtjdllofmhglmiaaGreatDoor
open Lib(hid)
set_option linter.all false
set_option maxHeartbeats 40000000
set_option maxRecDepth 100000
namespace Rf
open Go.RowKit
def bv:Option Nat->Int|none=>-1|some k=>k
theorem qD {lo sz n:Nat}{T:TypeId}{v:Value}{xs:List Value}{X:List Nat}{w w':World} (h:w.ownsRow lo T sz v n xs) (hf:Fr X w w') (hX:∀ b∈X,v.ownBlock≠some b):w'.ownsRow lo T sz v n xs:=by
 exact zbe
structure Pd (E:Ev) (c:Nat) (s:St) (w:World):Prop where
 blk:w.heap[c]?=some (.cells #[.string ⟨E.s.toArray⟩,.slice E.ta E.l.length E.tcap,.slice E.pa E.pair.length E.pcap,i8 (s.n:Int),i8 (bv s.b)] 75 (0,0))
 lie:Lie E c w
 prs:Prs E c w
 at_:s.n<=E.l.length
abbrev TK:=Tr × Option Addr × Nat
def cel (x:TK):List Value:=[.int .u8 (x.1.kind.toNat:Int),i8 x.1.word,i8 (x.1.fr:Int),i8 (x.1.to:Int),.slice x.2.1 x.1.kids.length x.2.2]
def lX0:List TK->List Value
 | []=>[]
 | x::r=>cel x++lX0 r
abbrev tv (t:Tr) (ka:Option Addr) (cap:Nat):Value:=.agg #[.int .u8 (t.kind.toNat:Int),i8 t.word,i8 (t.fr:Int),i8 (t.to:Int),.slice ka t.kids.length cap]
mutual
def EA (w:World) (D:Nat->Prop) (b o:Nat):Tr->Prop
 | .mk k wd f t ks=>∃ (ka:Option Addr) (cap:Nat),w.cell? (y8 b o)=some (.int .u8 (k.toNat:Int))/\w.cell? (y8 b (o+1))=some (i8 wd)/\w.cell? (y8 b (o+2))=some (i8 (f:Int))/\w.cell? (y8 b (o+3))=some (i8 (t:Int)) /\
  w.cell? (y8 b (o+4))=some (.slice ka ks.length cap)/\(ks=[]∨∃ b' o',ka=some (y8 b' o')/\D b'/\LG w D b' o' ks)
def LG (w:World) (D:Nat->Prop) (b o:Nat):List Tr->Prop
 | []=>True
 | t::r=>EA w D b o t/\LG w D b (o+5) r
end
def eX0 (w:World) (D:Nat->Prop) (ka:Option Addr) (ks:List Tr):Prop:=ks=[]∨∃ b o,ka=some (y8 b o)/\D b/\LG w D b o ks
mutual
theorem EA.kept {w w':World}{D D':Nat->Prop} (hk:∀ b,D b->w'.heap[b]?=w.heap[b]?) (hd:∀ b,D b->D' b):∀ (t:Tr) (b o:Nat),D b->EA w D b o t->EA w' D' b o t
 | .mk k wd f t ks,b,o,hb,⟨ka,cap,h0,h1,h2,h3,h4,h5⟩=>by
  refine⟨ka,cap,?_,?_,?_,?_,?_,?_⟩
  ·rw [World.cell?_of_block (a:=(y8 b o)) (hk b hb)];exact h0
  ·rw [World.cell?_of_block (a:=(y8 b (o+1))) (hk b hb)];exact h1
  ·rw [World.cell?_of_block (a:=(y8 b (o+2))) (hk b hb)];exact h2
  ·rw [World.cell?_of_block (a:=(y8 b (o+3))) (hk b hb)];exact h3
  ·rw [World.cell?_of_block (a:=(y8 b (o+4))) (hk b hb)];exact h4
  ·rcases h5 with h|⟨b',o',e,hb',hr⟩
   ·exact .inl h
   ·exact .inr ⟨b',o',e,hd b' hb',LG.kept hk hd ks b' o' hb' hr⟩
theorem LG.kept {w w':World}{D D':Nat->Prop} (hk:∀ b,D b->w'.heap[b]?=w.heap[b]?) (hd:∀ b,D b->D' b):∀ (ks:List Tr) (b o:Nat),D b->LG w D b o ks->LG w' D' b o ks
 | [],_,_,_,_=>trivial
 | t::r,b,o,hb,⟨h1,h2⟩=>⟨EA.kept hk hd t b o hb h1,LG.kept hk hd r b (o+5) hb h2⟩
end
theorem eX0.kept {w w':World}{D D':Nat->Prop}{ka:Option Addr}{ks:List Tr} (h:eX0 w D ka ks) (hk:∀ b,D b->w'.heap[b]?=w.heap[b]?) (hd:∀ b,D b->D' b):eX0 w' D' ka ks:=by
 rcases h with h|⟨b,o,e,hb,hr⟩
 ·exact .inl h
 ·exact .inr ⟨b,o,e,hd b hb,LG.kept hk hd ks b o hb hr⟩
theorem eX0.nil {w:World}{D:Nat->Prop}{ka:Option Addr}:eX0 w D ka []:=.inl rfl
theorem LG.of {w:World}{D:Nat->Prop}{b:Nat}:∀ (L:List TK) (o:Nat) (pre post:List Value),pre.length=o->(∀ i v,(pre++lX0 L++post)[i]?=some v->w.cell? (y8 b i)=some v)->(∀ x∈L,eX0 w D x.2.1 x.1.kids)->LG w D b o (L.map Prod.fst)
 | [],_,_,_,_,_,_=>trivial
 | (t,ka,cap)::r,o,pre,post,hp,hc,hk=>by
  subst hp;have at_:∀ j v,(cel (t,ka,cap))[j]?=some v->j < 5->w.cell? (y8 b (pre.length+j))=some v:=fun j v hj hj5=>by
   refine hc _ v ?_;rw [List.append_assoc,Ax Cs,Nat.add_sub_cancel_left]
   show ((cel (t,ka,cap)++lX0 r)++post)[j]?=some v
   rw [List.append_assoc,List.getElem?_append_left (by simpa [cel] using hj5)];exact hj
  refine⟨?_,LG.of r (pre.length+5) (pre++cel (t,ka,cap)) post (by simp [cel]) (fun i v hi=>hc i v ?_) (fun x hx=>hk x (Bm _ hx))⟩
  ·obtain⟨k,wd,f,e,ks⟩:=t;exact⟨ka,cap,at_ 0 _ rfl Cs,at_ 1 _ rfl Cs,at_ 2 _ rfl Cs,at_ 3 _ rfl Cs,at_ 4 _ rfl Cs,hk _ (Bj ..)⟩
  ·rw [<- hi];simp [lX0]
def Dm (D0:Nat->Prop) (lo:Nat) (B:List Nat) (rb:Option Nat) (w:World):Nat->Prop:=fun b=>(D0 b∨lo<=b)/\b < w.heap.size/\b ∉ B/\rb≠some b
def rbk (R:Option (Value × List TK)):Option Nat:=R.bind fun x=>x.1.ownBlock
structure Rx (E:Ev) (c:Nat) (D0:Nat->Prop) (w0:World) (B:List (Nat × List TK)) (R:Option (Value × List TK)) (Hd:List (Tr × Option Addr)) (s:St) (F:Tr × St) (X:O Tr) (w:World):Prop where
 pd:Pd E c s w
 fr:Fr [c] w0 w
 cw:c < w0.heap.size
 d0:∀ b,D0 b->b≠c/\b < w0.heap.size
 nd:(B.map Prod.fst).Nodup
 blk:∀ p L,(p,L)∈B->w0.heap.size<=p/\w.heap[p]?=some (.cells (lX0 L).toArray 60 (0,0))/\∀ x∈L,eX0 w (Dm D0 w0.heap.size (B.map Prod.fst) (rbk R) w) x.2.1 x.1.kids
 row:∀ v L,R=some (v,L)->w.ownsRow w0.heap.size 60 5 v L.length (lX0 L)/\(∀ b,v.ownBlock=some b->b ∉ B.map Prod.fst)/\∀ x∈L,eX0 w (Dm D0 w0.heap.size (B.map Prod.fst) (rbk R) w) x.2.1 x.1.kids
 hd:∀ x∈Hd,eX0 w (Dm D0 w0.heap.size (B.map Prod.fst) (rbk R) w) x.2 x.1.kids
 eq:X=some F
section
variable {E:Ev}{c:Nat}{D0:Nat->Prop}{w0 w w':World}{B:List (Nat × List TK)}{R:Option (Value × List TK)}{Hd:List (Tr × Option Addr)}{s s':St}{F:Tr × St}{X X':O Tr}
theorem KX0 {w:World}{p:Nat}{o:Obj} (h:w.heap[p]?=some o):p < w.heap.size:=by
 rcases Nat.lt_or_ge p w.heap.size with h'|h'
 ·exact h'
 ·simp [Array.getElem?_eq_none h'] at h
theorem Pd.cells (h:Pd E c s w):w.cell? (y8 c 0)=some (.string ⟨E.s.toArray⟩)/\w.cell? (y8 c 1)=some (.slice E.ta E.l.length E.tcap)/\w.cell? (y8 c 2)=some (.slice E.pa E.pair.length E.pcap) /\
  w.cell? (y8 c 3)=some (i8 (s.n:Int))/\w.cell? (y8 c 4)=some (i8 (bv s.b)):=by
 have hb:=h.blk;refine⟨?_,?_,?_,?_,?_⟩ <;> simp [World.cell?,hb]
theorem Pd.free (h:Pd E c s w) (i:Nat):w.frozen? (y8 c i)=false:=by
 have hb:=h.blk;simp [World.frozen?,hb]
theorem Pd.later {Z:List Nat} (h:Pd E c s w) (hf:Fr Z w w') (hZ:∀ k∈Z,c < k):Pd E c s w' :=
 ⟨hf.at_ (fun m=>by have:=hZ c m;omega) h.blk,h.lie.later hf (fun k m=>Nat.le_of_lt (hZ k m)),h.prs.later hf (fun k m=>Nat.le_of_lt (hZ k m)),h.at_⟩
theorem YX1 {a:Addr}{v:Value} (h:a.block=c):Fr [c] w (w.setCell a v):=by rw [<- h];exact Fr.set
theorem Pd.moved (h:Pd E c s w) (m:Nat) (hm:m<=E.l.length):Pd E c ⟨m,s.b⟩ (w.setCell (y8 c 3) (i8 (m:Int))) :=
 ⟨Hk,h.lie.later (YX1 rfl) (fun k m=>Fu),h.prs.later (YX1 rfl) (fun k m=>Fu),hm⟩
theorem Pd.failed (h:Pd E c s w) (b:Option Nat):Pd E c ⟨s.n,b⟩ (w.setCell (y8 c 4) (i8 (bv b))) :=
 ⟨Hl,h.lie.later (YX1 rfl) (fun k m=>Fu),h.prs.later (YX1 rfl) (fun k m=>Fu),h.at_⟩
theorem Rx.start (h:Pd E c s w) (hd:∀ b,D0 b->b≠c/\b < w.heap.size) (hH:∀ x∈Hd,eX0 w D0 x.2 x.1.kids) (he:X=some F):Rx E c D0 w [] none Hd s F X w :=
 ⟨h,Fr.refl _ _,KX0 h.blk,hd,List.nodup_nil,fun _ _ h=>Dd,fun _ _ h=>Dd,fun x hx=>(hH x hx).kept (fun _ _=>rfl) (fun b hb=>⟨.inl hb,(hd b hb).2,Cu,Lb⟩),he⟩
theorem Rx.dm (h:Rx E c D0 w0 B R Hd s F X w) {b:Nat} (hb:Dm D0 w0.heap.size (B.map Prod.fst) (rbk R) w b):b≠c/\b < w.heap.size:=by
 rcases hb.1 with h1|h1
 ·exact⟨(h.d0 b h1).1,hb.2.1⟩
 ·exact⟨by have:=h.cw;omega,hb.2.1⟩
theorem Dm.wider {lo:Nat}{Bs:List Nat}{rb:Option Nat} (hs:w.heap.size<=w'.heap.size):∀ b,Dm D0 lo Bs rb w b->Dm D0 lo Bs rb w' b:=fun _ h=>⟨h.1,Aj h.2.1 hs,h.2.2⟩
theorem Rx.later (h:Rx E c D0 w0 B R Hd s F X w) (hf:Fr [c] w w') (hp:Pd E c s' w') (he:X'=some F):Rx E c D0 w0 B R Hd s' F X' w':=by
 have hk:∀ b,Dm D0 w0.heap.size (B.map Prod.fst) (rbk R) w b->w'.heap[b]?=w.heap[b]?:=fun b hb=>hf.block b (h.dm hb).2 (by simpa using (h.dm hb).1)
 have hd:=fun b=>Dm.wider (D0:=D0) (lo:=w0.heap.size) (Bs:=B.map Prod.fst) (rb:=rbk R) hf.size b
 have hc:=h.cw;refine⟨hp,h.fr.trans hf,h.cw,h.d0,h.nd,fun p L hm=>?_,fun v L hr=>?_,fun x hx=>(h.hd x hx).kept hk hd,he⟩
 ·obtain⟨h1,h2,h3⟩:=h.blk p L hm;exact⟨h1,hf.at_ Cv h2,fun x hx=>(h3 x hx).kept hk hd⟩
 ·obtain⟨h1,h2,h3⟩:=h.row v L hr;refine⟨qD h1 hf (fun b hb e=>?_),h2,fun x hx=>(h3 x hx).kept hk hd⟩;simp at hb;subst hb;have:=(h1.lt _ e).1;omega
theorem Rx.below (h:Rx E c D0 w0 B R Hd s F X w) (hb:Below w.heap.size w w'):Rx E c D0 w0 B R Hd s F X w' :=
 h.later ((Fr.below hb).weaken (X:=[]) (fun _ _ h=>Dd)) (h.pd.later (Fr.below (X:=[]) hb) (fun _ h=>Dd)) h.eq
def Hs (Hd:List (Tr × Option Addr)) (x:TK):Prop:=x.1.kids=[]∨(x.1,x.2.1)∈Hd
theorem Rx.al (h:Rx E c D0 w0 B R Hd s F X w) (L:List TK) (hL:∀ x∈L,Hs Hd x):Rx E c D0 w0 ((w.heap.size,L)::B) R Hd s F X (w.alloc (.cells (lX0 L).toArray 60)):=by
 have hb:=(N' w.heap.size w).alloc (C' _) (Obj.cells (lX0 L).toArray 60);have h':=h.below hb;have hsz:(w.alloc (Obj.cells (lX0 L).toArray 60)).heap.size=w.heap.size+1:=Cu
 have hw0:=h.fr.size;have hlt:∀ p L',(p,L')∈B->p < w.heap.size:=fun p L' hm=>KX0 (h.blk p L' hm).2.1
 have hd:∀ b,Dm D0 w0.heap.size (B.map Prod.fst) (rbk R) w b->Dm D0 w0.heap.size (((w.heap.size,L)::B).map Prod.fst) (rbk R) (w.alloc (.cells (lX0 L).toArray 60)) b:=fun b hb=>⟨hb.1,Fc,by
  simp only [List.map_cons,List.mem_cons,not_or];exact⟨Fc,hb.2.2.1⟩,hb.2.2.2⟩
 have hk:∀ b,Dm D0 w0.heap.size (B.map Prod.fst) (rbk R) w b->(w.alloc (.cells (lX0 L).toArray 60)).heap[b]?=w.heap[b]?:=fun b hbb=>hb.block b hbb.2.1
 refine⟨h'.pd,h'.fr,h.cw,h.d0,?_,fun p L' hm=>?_,fun v L' hr=>?_,fun x hx=>(h.hd x hx).kept hk hd,h.eq⟩
 ·simp only [List.map_cons,List.nodup_cons];refine⟨fun hm=>?_,h.nd⟩;obtain⟨⟨p,L'⟩,hm,e⟩:=List.mem_map.1 hm;have:=hlt p L' hm;simp at e;omega
 ·rcases List.mem_cons.1 hm with e|hm
  ·cases e;refine⟨hw0,B8 w _,fun x hx=>?_⟩;rcases hL x hx with e|hm
   ·rw [e];exact eX0.nil
   ·exact (h.hd _ hm).kept hk hd
  ·obtain⟨h1,h2,h3⟩:=h.blk p L' hm;exact⟨h1,by rw [hb.block p (hlt p L' hm)];exact h2,fun x hx=>(h3 x hx).kept hk hd⟩
 ·obtain⟨h1,h2,h3⟩:=h.row v L' hr;refine⟨h1.alloc _,fun b hb=>?_,fun x hx=>(h3 x hx).kept hk hd⟩;simp only [List.map_cons,List.mem_cons,not_or];exact⟨by have:=(h1.lt b hb).2;omega,h2 b hb⟩
theorem ZX0 {w:World}{p:Nat}{v0 v1 v2 v3 v4:Value}{cs:List Value} (h:w.heap[p]?=some (.cells cs.toArray 60 (0,0))) (hc:cs.length=5) :
  (((((w.setCell (y8 p 0) v0).setCell (y8 p 1) v1).setCell (y8 p 2) v2).setCell (y8 p 3) v3).setCell (y8 p 4) v4).heap[p]?=some (.cells #[v0,v1,v2,v3,v4] 60 (0,0)):=by
 match cs,hc with
 | [a0,a1,a2,a3,a4],_ =>
  rw [heap_setCell_same _ p 4 _ _ _ (heap_setCell_same _ p 3 _ _ _ (heap_setCell_same _ p 2 _ _ _ (heap_setCell_same _ p 1 _ _ _ (heap_setCell_same w p 0 _ _ _ h))))]
  rfl
theorem PX0 {w:World}{p:Nat}{v0 v1 v2 v3 v4:Value}:Fr [p] w (((((w.setCell (y8 p 0) v0).setCell (y8 p 1) v1).setCell (y8 p 2) v2).setCell (y8 p 3) v3).setCell (y8 p 4) v4) :=
 ((((YX1 (a:=(y8 p 0)) rfl).trans (YX1 (a:=(y8 p 1)) rfl)).trans (YX1 (a:=(y8 p 2)) rfl)).trans (YX1 (a:=(y8 p 3)) rfl)).trans (YX1 (a:=(y8 p 4)) rfl)
inductive Put (p:Nat) (L L':List TK):List (Nat × List TK)->List (Nat × List TK)->Prop
 | here (B:List (Nat × List TK)):Put p L L' ((p,L)::B) ((p,L')::B)
 | there (x:Nat × List TK) {B B':List (Nat × List TK)}:Put p L L' B B'->Put p L L' (x::B) (x::B')
theorem Put.fst {p:Nat}{L L':List TK}{B B':List (Nat × List TK)} (h:Put p L L' B B'):B'.map Prod.fst=B.map Prod.fst:=by
 induction h with
 | here=>rfl
 | there x _ ih=>simp [ih]
theorem Put.mem {p:Nat}{L L':List TK}{B B':List (Nat × List TK)} (h:Put p L L' B B'):(p,L)∈B:=by
 induction h with
 | here=>simp
 | there x _ ih=>exact Bm _ ih
theorem Put.cases' {p:Nat}{L L':List TK}{B B':List (Nat × List TK)} (h:Put p L L' B B') (hn:(B.map Prod.fst).Nodup) {q:Nat}{M:List TK} (hm:(q,M)∈B'):(q=p/\M=L')∨((q,M)∈B/\q≠p):=by
 induction h with
 | here B =>
  rcases List.mem_cons.1 hm with e|hm
  ·cases e;exact .inl ⟨rfl,rfl⟩
  ·simp only [List.map_cons,List.nodup_cons] at hn;exact .inr ⟨Bm _ hm,fun e=>hn.1 (List.mem_map.2 ⟨_,hm,e⟩)⟩
 | there x h ih =>
  simp only [List.map_cons,List.nodup_cons] at hn;rcases List.mem_cons.1 hm with e|hm
  ·subst e;exact .inr ⟨Bj ..,fun e=>hn.1 (List.mem_map.2 ⟨_,h.mem,e.symm⟩)⟩
  ·rcases ih hn.2 hm with h1|h1
   ·exact .inl h1
   ·exact .inr ⟨Bm _ h1.1,h1.2⟩
theorem Rx.put (h:Rx E c D0 w0 B R Hd s F X w) {p:Nat}{L L':List TK}{B':List (Nat × List TK)} (hP:Put p L L' B B') (hL:∀ x∈L',Hs Hd x) (hf:Fr [p] w w') (hb:w'.heap[p]?=some (.cells (lX0 L').toArray 60 (0,0))) :
  Rx E c D0 w0 B' R Hd s F X w':=by
 have hm:=hP.mem;have hfst:=hP.fst;have hpB:p∈B.map Prod.fst:=List.mem_map.2 ⟨_,hm,rfl⟩;have hp0:=(h.blk p L hm).1;have hc:=h.cw;have hk:∀ b,Dm D0 w0.heap.size (B.map Prod.fst) (rbk R) w b->w'.heap[b]?=w.heap[b]?:=fun b hbb=>hf.block b hbb.2.1 (fun e=>by simp at e;subst e;exact hbb.2.2.1 hpB)
 have hd:=fun b=>Dm.wider (D0:=D0) (lo:=w0.heap.size) (Bs:=B.map Prod.fst) (rb:=rbk R) hf.size b
 refine⟨h.pd.later hf (fun k hk=>Dj),h.fr.trans' hf (fun k hk=>.inr Dj),h.cw,h.d0,by rw [hfst];exact h.nd,fun q M hq=>?_,fun v L2 hr=>?_,fun x hx=>by rw [hfst];exact (h.hd x hx).kept hk hd,h.eq⟩
 ·rw [hfst];rcases hP.cases' h.nd hq with ⟨rfl,rfl⟩|⟨hqB,hqp⟩
  ·refine⟨hp0,hb,fun x hx=>?_⟩;rcases hL x hx with e|hmm
   ·rw [e];exact eX0.nil
   ·exact (h.hd _ hmm).kept hk hd
  ·obtain⟨h1,h2,h3⟩:=h.blk q M hqB;exact⟨h1,hf.at_ (by simpa using hqp) h2,fun x hx=>(h3 x hx).kept hk hd⟩
 ·obtain⟨h1,h2,h3⟩:=h.row v L2 hr;rw [hfst];refine⟨qD h1 hf (fun b hb e=>?_),h2,fun x hx=>(h3 x hx).kept hk hd⟩;simp at hb;subst hb;exact h2 _ e hpB
inductive Del (p:Nat) (L:List TK):List (Nat × List TK)->List (Nat × List TK)->Prop
 | here (B:List (Nat × List TK)):Del p L ((p,L)::B) B
 | there (x:Nat × List TK) {B B':List (Nat × List TK)}:Del p L B B'->Del p L (x::B) (x::B')
theorem Del.mem {p:Nat}{L:List TK}{B B':List (Nat × List TK)} (h:Del p L B B'):(p,L)∈B:=by
 induction h with
 | here=>simp
 | there x _ ih=>exact Bm _ ih
theorem Del.sub {p:Nat}{L:List TK}{B B':List (Nat × List TK)} (h:Del p L B B') {x:Nat × List TK} (hx:x∈B'):x∈B:=by
 induction h with
 | here=>exact Bm _ hx
 | there y _ ih =>
  rcases List.mem_cons.1 hx with e|hx
  ·rw [e];simp
  ·exact Bm _ (ih hx)
theorem Del.nd {p:Nat}{L:List TK}{B B':List (Nat × List TK)} (h:Del p L B B') (hn:(B.map Prod.fst).Nodup):(B'.map Prod.fst).Nodup/\p ∉ B'.map Prod.fst:=by
 induction h with
 | here=>simp only [List.map_cons,List.nodup_cons] at hn;exact⟨hn.2,hn.1⟩
 | there x h ih =>
  simp only [List.map_cons,List.nodup_cons] at hn ⊢;obtain⟨h1,h2⟩:=ih hn.2;refine⟨⟨fun e=>?_,h1⟩,?_⟩
  ·obtain⟨y,hy,e⟩:=List.mem_map.1 e;exact hn.1 (List.mem_map.2 ⟨y,h.sub hy,e⟩)
  ·simp only [List.mem_cons,not_or];exact⟨fun e=>hn.1 (List.mem_map.2 ⟨_,h.mem,e⟩),h2⟩
theorem Rx.give (h:Rx E c D0 w0 B R Hd s F X w) {p:Nat}{L:List TK}{B':List (Nat × List TK)} (hP:Del p L B B'):Rx E c D0 w0 B' R Hd s F X w/\eX0 w (Dm D0 w0.heap.size (B'.map Prod.fst) (rbk R) w) (some (y8 p 0)) (L.map Prod.fst):=by
 have hm:=hP.mem;have hsub:∀ x,x∈B'.map Prod.fst->x∈B.map Prod.fst:=fun x hx=>by
  obtain⟨y,hy,e⟩:=List.mem_map.1 hx;exact List.mem_map.2 ⟨y,hP.sub hy,e⟩
 have hd:∀ b,Dm D0 w0.heap.size (B.map Prod.fst) (rbk R) w b->Dm D0 w0.heap.size (B'.map Prod.fst) (rbk R) w b:=fun b hb=>⟨hb.1,hb.2.1,fun e=>hb.2.2.1 (hsub b e),hb.2.2.2⟩
 have hk:∀ b,Dm D0 w0.heap.size (B.map Prod.fst) (rbk R) w b->w.heap[b]?=w.heap[b]?:=fun _ _=>rfl
 obtain⟨hn,hnp⟩:=hP.nd h.nd;obtain⟨hp0,hpb,hpk⟩:=h.blk p L hm;refine⟨⟨h.pd,h.fr,h.cw,h.d0,hn,fun q M hq=>?_,fun v L2 hr=>?_,fun x hx=>(h.hd x hx).kept hk hd,h.eq⟩,.inr ⟨p,0,rfl,⟨.inr hp0,KX0 hpb,hnp,fun e=>?_⟩,LG.of L 0 [] [] rfl (fun j v hj=>?_) (fun x hx=>(hpk x hx).kept hk hd)⟩⟩
 ·obtain⟨h1,h2,h3⟩:=h.blk q M (hP.sub hq);exact⟨h1,h2,fun x hx=>(h3 x hx).kept hk hd⟩
 ·obtain⟨h1,h2,h3⟩:=h.row v L2 hr;exact⟨h1,fun b hb e=>h2 b hb (hsub b e),fun x hx=>(h3 x hx).kept hk hd⟩
 ·unfold rbk at e;cases hR:R with
  | none=>rw [hR] at e;cases e
  | some x =>
   obtain⟨v,L2⟩:=x;rw [hR] at e;exact (h.row v L2 hR).2.1 p e (List.mem_map.2 ⟨_,hm,rfl⟩)
 ·have:(lX0 L)[j]?=some v:=by simpa using hj
  simp [World.cell?,hpb,this]
theorem Rx.have' (h:Rx E c D0 w0 B R Hd s F X w) {t:Tr}{ka:Option Addr} (hk:eX0 w (Dm D0 w0.heap.size (B.map Prod.fst) (rbk R) w) ka t.kids):Rx E c D0 w0 B R ((t,ka)::Hd) s F X w :=
 ⟨h.pd,h.fr,h.cw,h.d0,h.nd,h.blk,h.row,fun x hx=>by
  rcases List.mem_cons.1 hx with rfl|hx
  ·exact hk
  ·exact h.hd x hx,h.eq⟩
end
def Ans (E:Ev) (c:Nat) (D0:Nat->Prop) (w0:World) (F:Tr × St) (e:Ending) (w':World):Prop :=
 ∃ ka cap,e=.returned (tv F.1 ka cap)/\Pd E c F.2 w'/\eX0 w' (fun b=>(D0 b∨w0.heap.size<=b)/\b < w'.heap.size) ka F.1.kids/\Fr [c] w0 w'
end Rf
namespace Rf
open Go.RowKit
section
variable {E:Ev}{c:Nat}{s:St}{w:World}
set_option maxRecDepth 100000
set_option maxHeartbeats 4000000
theorem zX2 (h:Pd E c s w) (i:Int):Calls Tryz.prog 85 #[p8 c,i8 i] w fun e w'=>e=.returned (.int .u8 ((E.kind i).toNat:Int))/\Below w.heap.size w w':=by
 obtain⟨h0,h1,_⟩:=h.cells;have hl:=h.lie;have hsm:=h.lie.small;clear h;by_cases hi:i < 0
 ·have d0:decide (i < 0)=true:=decide_eq_true hi;have hk:E.kind i=0:=by unfold Env.kind;rw [Bb hi]
  rw [hk];clear hi hk hl
  go_in
  exact zax
 ·have d0:decide (i < 0)=false:=decide_eq_false hi;obtain⟨n,rfl⟩:=Ad (Int.not_lt.1 hi);by_cases hn:n < E.l.length
  ·have d1:decide ((E.l.length:Int)<=(n:Int))=false:=decide_eq_false Cs;have ht:E.l[n]?=some (E.l[n]):=O' hn;have hk:E.kind (n:Int)=E.l[n].kind:=by
    unfold Env.kind;exact zcx
   rw [hk];obtain⟨b,o,hta,_,c0,_,_⟩:=hl.toks n _ ht;generalize E.l[n]=t at *;rw [hta] at h1;have b0:(0:Int)<=(n:Int):=Cs
   have b1:(n:Int) < (E.l.length:Int):=Cs
   clear hl hk ht hta hi
   go_in
   exact zax
  ·have d1:decide ((E.l.length:Int)<=(n:Int))=true:=decide_eq_true Cs;have d2:E.l.length<=n:=by omega
   have hk:E.kind (n:Int)=0:=FG Cs;rw [hk];clear hl hk hn
   go_in
   exact zax
theorem text_any (h:Pd E c s w) (i:Int):Calls Tryz.prog 50 #[p8 c,i8 i] w fun e w'=>e=.returned (.string ⟨(E.word i).toArray⟩)/\Below w.heap.size w w':=by
 have hS:=hid (zX2 h i);obtain⟨h0,h1,_⟩:=h.cells;have hl:=h.lie;by_cases hi:∃ n:Nat,i=(n:Int)/\n < E.l.length
 ·obtain⟨n,rfl,hn⟩:=hi;have hi:¬ (n:Int) < 0:=by omega
  have ht:E.l[n]?=some (E.l[n]):=O' hn;have hk:E.kind (n:Int)=E.l[n].kind:=by unfold Env.kind;rw [Bc hi];simp only [Ai,ht]
  have hw:E.word (n:Int)=if E.l[n].kind=9 then [59] else if E.l[n].kind=8∨E.l[n].kind=2 then (E.s.take E.l[n].to).drop E.l[n].fr else []:=by
   unfold Env.word;exact zcx
  obtain⟨b,o,hta,_,c0,c1,c2⟩:=hl.toks n _ ht;obtain⟨f1,f2⟩:=hl.fits _ (List.getElem_mem hn);rw [hk] at hS;generalize E.l[n]=t at *;obtain⟨k,fr,tl⟩:=t;simp only [] at *;rw [hta] at h1;have b0:(0:Int)<=(n:Int):=Cs
  have b1:(n:Int) < (E.l.length:Int):=Cs
  have g0:(0:Int)<=(fr:Int):=Cs
  have g1:(fr:Int)<=(tl:Int):=Cs
  have g2:(tl:Int)<=(E.s.length:Int):=Cs
  have HC:=hid (Az h0 (Az h1 (Az c1 c2)));have HW:=hid hw;clear hl hk ht hta hi f1 f2 hw h0 h1 c0 c1 c2 h;by_cases k9:k=9
  ·subst k9
   go_in
   go_wp2_with fail;refine hS.out.mono ?_;rintro e w2 ⟨rfl,hb⟩;go_wp2_with fail;go_ret;exact⟨by rw [HW.out];rfl,hb⟩
  ·have n9:((k.toNat:Int)==9)=false:=by simp;intro h;exact k9 (Ay.1 Cv)
   by_cases k82:k=8∨k=2
   ·have hw:=HW.out;rw [Bc k9,Bb k82] at hw;have HW2:=hid hw;clear hw HW;have HY:∀ w1,Below w.heap.size w w1->w1.cell? (y8 c 0)=some (.string ⟨E.s.toArray⟩)/\w1.cell? (y8 c 1)=some (.slice (some (y8 b o)) E.l.length E.tcap)/\w1.cell? ⟨b,o+n*3+1,none⟩=some (i8 (fr:Int))/\w1.cell? ⟨b,o+n*3+2,none⟩=some (i8 (tl:Int)):=fun w1 hb=>⟨aA hb HC.out.1,aA hb HC.out.2.1,aA hb HC.out.2.2.1,aA hb HC.out.2.2.2⟩
    have HYY:=hid HY;clear HY;rcases k82 with rfl|rfl
    ·go_in
     exact zbq
    ·go_in
     exact zbq
   ·have n8:((k.toNat:Int)==8)=false:=by simp;intro h;exact k82 (.inl (Ay.1 Cv))
    have n2:((k.toNat:Int)==2)=false:=by simp;intro h;exact k82 (.inr (Ay.1 Cv))
    have hw:=HW.out;rw [Bc k9,Bc k82] at hw;have HW2:=hid hw;clear hw HW k9 k82
    go_in
    go_wp2_with fail;refine hS.out.mono ?_;rintro e w2 ⟨rfl,hb⟩;go_wp2_with fail;go_ret;exact⟨by rw [HW2.out];rfl,hb⟩
 ·have hk:E.kind i=0/\E.word i=[]:=by
   by_cases h0:i < 0
   ·exact⟨by unfold Env.kind;rw [Bb h0],by unfold Env.word;rw [Bb h0]⟩
   ·obtain⟨n,rfl⟩:=Ad (Int.not_lt.1 h0);have:E.l.length<=n:=by
     rcases Nat.lt_or_ge n E.l.length with h'|h'
     ·exact absurd ⟨n,rfl,h'⟩ hi
     ·exact h'
    exact⟨FG this,AG this⟩
  rw [hk.1] at hS;rw [hk.2];clear hk hi hl h0 h1 h
  go_in
  exact zbh
theorem nX1 (h:Pd E c s w) (i:Int) (x:UInt8) (l:List UInt8):Calls Tryz.prog 66 #[p8 c,i8 i,.string ⟨(x::l).toArray⟩] w fun e w'=>e=.returned (.bool (E.word i==(x::l)))/\Below w.heap.size w w':=by
 have hS:=hid (text_any h i);clear h
 go_in
 go_wp2_with fail;refine hS.out.mono ?_;rintro e w2 ⟨rfl,hb⟩;go_wp2_with fail;go_ret;exact⟨Cu,hb⟩
end
end Rf
namespace Rf
open Go.RowKit
theorem Tryz.infoT:(Tryz.prog.info? 60).map (fun i=>(i.zero,i.size,i.bytes))=some (some (.agg #[.int .u8 0,i8 0,i8 0,i8 0,.slice none 0 0]),5,56):=Cw
theorem Tryz.infoT5:(Tryz.prog.info? 60).map (·.size)=some 5:=Cw
theorem xX2 {fn:Func}{i:Nat} (hf:fn.results=#[.cell i 60]) {R:Ending->World->Prop}{a:Act}{W:World}{r:Nat}{t:Tr}{ka:Option Addr}{cap:Nat} (ht:a.tmps.getD i undef=p8 r) (hd:a.defers=[])
  (c:W.heap[r]?=some (.cells (lX0 [(t,ka,cap)]).toArray 60 (0,0))) (hR:R (.returned (tv t ka cap)) W):bodyPost Tryz.prog fn R .ret a W:=by
 refine Ca (v:=tv t ka cap) ?_ hd hR;have h:=run_loadVar_row (P:=Tryz.prog) W r _ 60 (cel (t,ka,cap)).toArray (0,0) _ (by simpa [lX0] using c) Tryz.underlying60 rfl Tryz.infoT5;have ht2:a.tmps[i]?.getD undef=p8 r:=by simpa using ht
 unfold results;rw [hf];simp [ht2,asAddr,h,cel]
theorem MX1 {b:Option Nat}:b=none↔bv b < 0:=by
 cases b with
 | none=>exact⟨fun _=>by unfold bv;decide,fun _=>rfl⟩
 | some k=>exact⟨fun e=>Ld,fun e=>(by simp only [bv] at e;omega)⟩
section
variable {E:Ev}{c:Nat}{s:St}{w:World}
set_option maxRecDepth 100000
set_option maxHeartbeats 4000000
theorem dX0 (h:Pd E c s w) (x:UInt8) (l:List UInt8):Calls Tryz.prog 33 #[p8 c,.string ⟨(x::l).toArray⟩] w fun e w'=>e=.returned (.bool (nx E.toEnv (x::l) s))/\Below w.heap.size w w':=by
 have hS:=hid (nX1 h (s.n:Int) x l);obtain⟨_,_,_,h3,h4⟩:=h.cells;clear h;obtain⟨n,b⟩:=s;cases b with
 | none =>
  rw [wX0];replace h4:w.cell? (y8 c 4)=some (i8 (-1)):=h4
  go_in
  exact zbh
 | some k =>
  rw [VX0];replace h4:w.cell? (y8 c 4)=some (i8 (k:Int)):=h4;have d:¬ ((k:Int) < 0):=Cs
  go_in
  exact za8
theorem hX3 (h:Pd E c s w):Calls Tryz.prog 34 #[p8 c] w fun e w'=>e=.returned (.bool (ends E.toEnv s))/\Below w.heap.size w w':=by
 obtain⟨_,h1,_,h3,_⟩:=h.cells;have he:ends E.toEnv s=decide (E.l.length<=s.n):=by
  have:=h.at_;unfold ends Env.ended;by_cases e:s.n=E.l.length
  ·simp [e]
  ·have h1:¬ E.l.length<=s.n:=by omega
   simp [e,h1]
 rw [he];clear h he
 go_in
 go_wp2_with fail;go_region;go_wp2_with fail;go_ret;exact⟨Cu,(N' _ _).drew⟩
theorem VH (h:Pd E c s w):Calls Tryz.prog 35 #[p8 c] w fun e w'=>e=.returned (.tuple #[])/\Pd E c (vX0 s) w'/\Fr [c] w w':=by
 have hf:=h.free 4;obtain⟨_,_,_,h3,h4⟩:=h.cells;have HH:=hid h;clear h;obtain⟨n,b⟩:=s;cases b with
 | none =>
  replace h4:w.cell? (y8 c 4)=some (i8 (-1)):=h4
  go_in
  go_wp2_with fail;go_end0;exact⟨rfl,HH.out.failed (some n),YX1 rfl⟩
 | some k =>
  replace h4:w.cell? (y8 c 4)=some (i8 (k:Int)):=h4;have d:¬ ((k:Int) < 0):=Cs
  go_in
  go_wp2_with fail;go_end0;exact⟨rfl,HH.out,Fr.refl _ _⟩
theorem Pd.below {w':World} (h:Pd E c s w) (hb:Below w.heap.size w w'):Pd E c s w':=h.later (Fr.below (X:=[]) hb) (fun _ m=>by simp at m)
theorem jX1 {w':World} (hb:Below w.heap.size w w'):Fr [c] w w':=(Fr.below (X:=[]) hb).weaken (fun _ _ m=>by simp at m)
theorem oX7 (h:Pd E c s w) (x:UInt8) (l:List UInt8):Calls Tryz.prog 52 #[p8 c,.string ⟨(x::l).toArray⟩] w fun e w'=>e=.returned (.tuple #[])/\Pd E c (if nx E.toEnv (x::l) s then s.up else vX0 s) w'/\Fr [c] w w':=by
 have hS:=hid (dX0 h x l);have HH:=hid h;clear h;cases hx:nx E.toEnv (x::l) s with
 | true =>
  rw [hx] at hS;have hlt:s.n < E.l.length:=by
   obtain⟨n,b⟩:=s;cases b with
   | none=>rw [wX0] at hx;exact gA hx
   | some k=>rw [VX0] at hx;cases hx
  have HL:=hid hlt;clear hlt hx
  go_in
  go_wp2_with fail;refine hS.out.mono ?_;rintro e w2 ⟨rfl,hb⟩;have hP:=HH.out.below hb;have hf:=hP.free 3;obtain⟨_,_,_,h3,_⟩:=hP.cells;have hsm:((s.n:Nat):Int)<=1099511627776:=by have:=HL.out;have:=HH.out.lie.small;omega
  have HP:=hid (Az hP hb);clear hP hb;go_wp2_with fail;refine Ca (results_none rfl _ _ _) rfl ?_;exact⟨rfl,by simpa [St.up] using HP.out.1.moved (s.n+1) HL.out,(jX1 HP.out.2).trans (YX1 rfl)⟩
 | false =>
  rw [hx] at hS;clear hx
  go_in
  go_wp2_with fail;refine hS.out.mono ?_;rintro e w2 ⟨rfl,hb⟩;have HF:=hid (VH (HH.out.below hb));have HB:=hid hb;clear hb;go_wp2_with fail;refine HF.out.mono ?_;rintro e w3 ⟨rfl,hp,hf⟩;have HZ:=hid (Az hp hf);clear hp hf;go_wp2_with fail;go_end0;exact⟨rfl,by simpa using HZ.out.1,(jX1 HB.out).trans HZ.out.2⟩
theorem tX2 (h:Pd E c s w) (i:Int):Calls Tryz.prog 48 #[p8 c,i8 i] w fun e w'=>e=.returned (.bool (E.named i))/\Below w.heap.size w w':=by
 have hS:=hid (zX2 h i);have he:E.named i=(((E.kind i).toNat:Int)==1):=by
  unfold Env.named;rw [Bg];simp [<- Ay];omega
 rw [he];clear h he;generalize E.kind i=k at *
 go_in
 exact zbh
theorem GX1 (h:Pd E c s w) (i:Int):Calls Tryz.prog 172 #[p8 c,i8 i] w fun e w'=>e=.returned (.bool (E.quoted i))/\Below w.heap.size w w':=by
 have hS:=hid (zX2 h i);have he:E.quoted i=(((E.kind i).toNat:Int)==7):=by
  unfold Env.quoted;rw [Bg];simp [<- Ay];omega
 rw [he];clear h he;generalize E.kind i=k at *
 go_in
 exact zbh
theorem LX6 (h:Pd E c s w) (i:Int):Calls Tryz.prog 215 #[p8 c,i8 i] w fun e w'=>e=.returned (.bool (E.literal i))/\Below w.heap.size w w':=by
 have hS:Hid (∀ w1,Below w.heap.size w w1->Calls Tryz.prog 85 #[p8 c,i8 i] w1 fun e w'=>e=.returned (.int .u8 ((E.kind i).toNat:Int))/\Below w1.heap.size w1 w'):=hid fun w1 hb=>zX2 (h.below hb) i
 unfold Env.literal;clear h;generalize E.kind i=k at *
 go_in
 go_wp2_with fail;refine (hS.out w (N' _ _)).mono ?_;rintro e w2 ⟨rfl,hb⟩;have HB:=hid hb;clear hb;go_wp2_with fail
 ·refine (hS.out w2 HB.out).mono ?_;rintro e w3 ⟨rfl,hb⟩;have HB2:=hid (dA HB.out hb);clear hb;go_wp2_with fail;go_ret;exact⟨by (have h3:3<=k.toNat:=Cs);simp [h3];omega,HB2.out⟩
 ·go_ret;exact⟨Cv,HB.out⟩
end
end Rf
namespace Rf
open Go.RowKit
section
variable {E:Ev}{c:Nat}{s:St}{w:World}
set_option maxRecDepth 100000
set_option maxHeartbeats 4000000
theorem dZ0 {w:World}{x:TK}:Below w.heap.size w (w.alloc (.cells (lX0 [x]).toArray 60))/\(w.alloc (.cells (lX0 [x]).toArray 60)).heap[w.heap.size]?=some (.cells (lX0 [x]).toArray 60 (0,0)):=⟨(N' _ _).alloc (C' _) _,B8 w _⟩
theorem IX2 (h:Pd E c s w) (k:UInt8) (wd:Int) (fr:Nat) (ks:List Tr) (ka:Option Addr) (cap:Nat) :
  Calls Tryz.prog 53 #[p8 c,.int .u8 (k.toNat:Int),i8 wd,i8 (fr:Int),.slice ka ks.length cap] w fun e w'=>e=.returned (tv (.mk k wd fr s.n ks) ka cap)/\Below w.heap.size w w':=by
 obtain⟨_,_,_,h3,_⟩:=h.cells;have hc:=KX0 h.blk;clear h
 go_in
 go_wp2_with fail;exact xX2 (t:=.mk k wd fr s.n ks) (ka:=ka) (cap:=cap) rfl rfl rfl (dZ0 (x:=(.mk k wd fr s.n ks,ka,cap))).2 ⟨rfl,(dZ0 (x:=(.mk k wd fr s.n ks,ka,cap))).1⟩
abbrev W0 (w:World):World:=w.alloc (.cells #[.int .u8 0,i8 0,i8 0,i8 0,.slice none 0 0] 60)
theorem VX4:(W0 w).heap[w.heap.size]?=some (.cells #[.int .u8 0,i8 0,i8 0,i8 0,.slice none 0 0] 60 (0,0)):=B8 w _
theorem YX0:Below w.heap.size w (W0 w):=(N' _ _).alloc (C' _) _
def bX0 (w:World) (p:Nat) (v0 v1 v2 v3 v4:Value):Prop :=
 w.cell? (y8 p 0)=some v0/\w.cell? (y8 p 1)=some v1/\w.cell? (y8 p 2)=some v2/\w.cell? (y8 p 3)=some v3/\w.cell? (y8 p 4)=some v4 /\
 w.frozen? (y8 p 0)=false/\w.frozen? (y8 p 1)=false/\w.frozen? (y8 p 2)=false/\w.frozen? (y8 p 3)=false/\w.frozen? (y8 p 4)=false
theorem pX0 {w:World}{p:Nat}{v0 v1 v2 v3 v4:Value}{T:TypeId} (h:w.heap[p]?=some (.cells #[v0,v1,v2,v3,v4] T (0,0))):bX0 w p v0 v1 v2 v3 v4:=by
 refine⟨?_,?_,?_,?_,?_,?_,?_,?_,?_,?_⟩ <;> simp [World.cell?,World.frozen?,h]
theorem BX1 {w1:World}{r:Nat}{v0 v1 v2 v3 v4:Value} (h:w1.heap[r]?=some (.cells #[.int .u8 0,i8 0,i8 0,i8 0,.slice none 0 0] 60 (0,0))) :
  (((((w1.setCell (y8 r 0) v0).setCell (y8 r 1) v1).setCell (y8 r 2) v2).setCell (y8 r 3) v3).setCell (y8 r 4) v4).heap[r]?=some (.cells #[v0,v1,v2,v3,v4] 60 (0,0)):=ZX0 (cs:=[.int .u8 0,i8 0,i8 0,i8 0,.slice none 0 0]) h rfl
theorem FX0 {w w1:World}{B r:Nat}{v0 v1 v2 v3 v4:Value} (h:Below B w w1) (hr:B<=r):Below B w (((((w1.setCell (y8 r 0) v0).setCell (y8 r 1) v1).setCell (y8 r 2) v2).setCell (y8 r 3) v3).setCell (y8 r 4) v4) :=
 ((((h.setCell hr _).setCell hr _).setCell hr _).setCell hr _).setCell hr _
theorem wX6 (h:Pd E c s w):Calls Tryz.prog 58 #[p8 c] w fun e w'=>e=.returned (tv (vA 0 s.n) none 0)/\Below w.heap.size w w':=by
 obtain⟨_,_,_,h3,_⟩:=(h.below YX0).cells;have hq:=VX4 (w:=w);have HB:=hid (YX0 (w:=w));simp only [W0] at h3 hq HB;clear h
 go_in
 go_wp2_with fail;generalize w.alloc (.cells #[.int .u8 0,i8 0,i8 0,i8 0,.slice none 0 0] 60)=w1 at *;obtain⟨r,hr⟩:∃ r,r=w.heap.size:=⟨_,rfl⟩;rw [<- hr] at hq ⊢;have HR:=hid hr;have HQ:=hid hq;have hv:=pX0 hq;simp only [bX0] at hv;clear hr hq;go_region;go_wp2_with fail;exact xX2 (t:=vA 0 s.n) (ka:=none) (cap:=0) rfl rfl rfl (BX1 HQ.out) ⟨rfl,(FX0 HB.out (by have:=HR.out;omega)).drew⟩
theorem EX2 {w w1:World}{r:Nat}{v0 v1 v2 v3 v4:Value} (h:Fr [c] w w1) (hr:w.heap.size<=r):Fr [c] w (((((w1.setCell (y8 r 0) v0).setCell (y8 r 1) v1).setCell (y8 r 2) v2).setCell (y8 r 3) v3).setCell (y8 r 4) v4) :=
 h.trans' (PX0 (p:=r)) (fun i hi=>.inr F4)
theorem gX3 {w1:World}{s:St}{r:Nat}{v0 v1 v2 v3 v4:Value} (h:Pd E c s w1) (hr:c < r):Pd E c s (((((w1.setCell (y8 r 0) v0).setCell (y8 r 1) v1).setCell (y8 r 2) v2).setCell (y8 r 3) v3).setCell (y8 r 4) v4) :=
 h.later (PX0 (p:=r)) (fun k hk=>Dj)
theorem IL (h:Pd E c s w) (k:UInt8) (ok:Bool) {F:Tr × St} (hF:lfM E.toEnv k ok s=some F):Calls Tryz.prog 100 #[p8 c,.int .u8 (k.toNat:Int),.bool ok] w fun e w'=>e=.returned (tv F.1 none 0)/\F.1.kids=[]/\Pd E c F.2 w'/\Fr [c] w w':=by
 have hP:=h.below YX0;have hcr:=KX0 h.blk;have hsm:((s.n:Nat):Int)<=1099511627776:=Em
 have HB:=hid (Az (YX0 (w:=w)) (Az (VX4 (w:=w)) (Az hP hcr)));have HFL:=hid (VH hP);have hcl:=hP.cells;have hf3:=hP.free 3;simp only [W0] at HB HFL hcl hf3;have hP0:=h;clear h hP;have hs:(s.ok&&ok)=false∨(s.b=none/\ok=true):=by
  unfold St.ok;cases s.b <;> cases ok <;> simp
 rcases hs with hh|⟨hb,rfl⟩
 ·have hF:F=(zT,vX0 s):=by unfold lfM at hF;rw [hh] at hF;simpa using hF.symm
  subst hF;have hd:(bv s.b < 0/\ok=false)∨0<=bv s.b:=by
   unfold St.ok at hh;cases hb:s.b with
   | none=>rw [hb] at hh;exact .inl ⟨by simp [bv],by simpa using hh⟩
   | some k=>exact .inr (by simp [bv])
  clear hh;rcases hd with ⟨d,rfl⟩|d
  all_goals
   go_in
   go_wp2_with fail;refine HFL.out.mono ?_;rintro e w2 ⟨rfl,hp2,hf2⟩;have hr2:=hf2.at_ Ki HB.out.2.1;have hfr:=(jX1 (c:=c) HB.out.1).trans hf2;have HZ:=hid (Az hp2 (Az hfr (Az hr2 HB.out.2.2.2)));have hv:=pX0 hr2;simp only [bX0] at hv;clear hp2 hf2 hr2 hfr HFL hcl hf3 HB hP0;go_wp2_with fail;exact xX2 (t:=zT) (ka:=none) (cap:=0) rfl rfl rfl (BX1 HZ.out.2.2.1) ⟨rfl,rfl,gX3 HZ.out.1 HZ.out.2.2.2,EX2 HZ.out.2.1 (C' _)⟩
 ·have hlt:s.n < E.l.length/\F=(.mk k s.n s.n (s.n+1) [],s.up):=by
   unfold lfM at hF;simp only [St.ok,hb,Option.isNone_none,Bool.and_self,Be] at hF;split at hF
   ·exact⟨Dt,by simpa using hF.symm⟩
   ·cases hF
  obtain⟨hlt,rfl⟩:=hlt;have d:bv s.b < 0:=MX1.1 hb;have hm:Pd E c s.up (w.setCell (y8 c 3) (i8 ((s.n:Int)+1))):=by have:=hP0.moved (s.n+1) hlt;simpa [St.up] using this
  have HP2:Hid (Pd E c s.up ((w.setCell (y8 c 3) (i8 ((s.n:Int)+1))).alloc (.cells #[.int .u8 0,i8 0,i8 0,i8 0,.slice none 0 0] 60))):=hid (hm.below ((N' _ _).alloc (C' _) _));have HF2:Hid (Fr [c] w ((w.setCell (y8 c 3) (i8 ((s.n:Int)+1))).alloc (.cells #[.int .u8 0,i8 0,i8 0,i8 0,.slice none 0 0] 60))):=hid ((YX1 (c:=c) rfl).trans (jX1 ((N' _ _).alloc (C' _) _)));have hr2:((w.setCell (y8 c 3) (i8 ((s.n:Int)+1))).alloc (.cells #[.int .u8 0,i8 0,i8 0,i8 0,.slice none 0 0] 60)).heap[w.heap.size]?=some (.cells #[.int .u8 0,i8 0,i8 0,i8 0,.slice none 0 0] 60 (0,0)):=by
   have:=B8 (w.setCell (y8 c 3) (i8 ((s.n:Int)+1))) (.cells #[.int .u8 0,i8 0,i8 0,i8 0,.slice none 0 0] 60);simpa using this
  have HR2:=hid hr2;have HCR:=hid hcr;clear hb hlt hF HFL hr2 hm hP0
  go_in
  go_wp2_with fail;generalize (w.setCell (y8 c 3) (i8 ((s.n:Int)+1))).alloc (.cells #[.int .u8 0,i8 0,i8 0,i8 0,.slice none 0 0] 60)=w1 at *;generalize hw0:w.alloc (.cells #[.int .u8 0,i8 0,i8 0,i8 0,.slice none 0 0] 60)=w00 at *;have hv:=pX0 HR2.out;simp only [bX0] at hv;obtain⟨_,_,_,g3,_⟩:=HP2.out.cells;replace g3:w1.cell? (y8 c 3)=some (i8 ((s.n:Int)+1)):=by rw [g3];simp [St.up]
  clear hcl hf3 hw0 HB d;obtain⟨r,hr⟩:∃ r,r=w.heap.size:=⟨_,rfl⟩;rw [<- hr] at hv HR2 HCR hcr ⊢;have HR:=hid hr;clear hr;go_region;go_wp2_with fail;exact xX2 (t:=.mk k s.n s.n (s.n+1) []) (ka:=none) (cap:=0) rfl rfl rfl (BX1 HR2.out) ⟨rfl,rfl,(gX3 HP2.out HCR.out).later (Fr.below (X:=[]) (N' _ _).drew) (fun _ m=>by simp at m),(EX2 HF2.out (by have:=HR.out;omega)).trans (jX1 (N' _ _).drew)⟩
theorem EX6 (h:Pd E c s w) {F:Tr × St} (hF:DX0 E.toEnv s=some F):Calls Tryz.prog 62 #[p8 c] w fun e w'=>e=.returned (tv F.1 none 0)/\F.1.kids=[]/\Pd E c F.2 w'/\Fr [c] w w':=by
 have hP:=h.below YX0;have HB:=hid (Az (YX0 (w:=w)) (Az (VX4 (w:=w)) (Az hP (KX0 h.blk))));have hcl:=hP.cells;have HN:=hid (tX2 hP (s.n:Int));have HL:Hid (∀ w1,Below (W0 w).heap.size (W0 w) w1->Calls Tryz.prog 100 #[p8 c,.int .u8 26,.bool (E.named (s.n:Int))] w1 fun e w'=>e=.returned (tv F.1 none 0)/\F.1.kids=[]/\Pd E c F.2 w'/\Fr [c] w1 w'):=hid fun w1 hb=>IL (hP.below hb) 26 _ hF
 simp only [W0] at HB HN HL hcl;clear h hP hF
 go_in
 exact zap
theorem kX7 (h:Pd E c s w) {F:Tr × St} (hF:yX4 E.toEnv s=some F):Calls Tryz.prog 143 #[p8 c] w fun e w'=>e=.returned (tv F.1 none 0)/\F.1.kids=[]/\Pd E c F.2 w'/\Fr [c] w w':=by
 have hP:=h.below YX0;have HB:=hid (Az (YX0 (w:=w)) (Az (VX4 (w:=w)) (Az hP (KX0 h.blk))));have hcl:=hP.cells;have HN:=hid (GX1 hP (s.n:Int));have HL:Hid (∀ w1,Below (W0 w).heap.size (W0 w) w1->Calls Tryz.prog 100 #[p8 c,.int .u8 27,.bool (E.quoted (s.n:Int))] w1 fun e w'=>e=.returned (tv F.1 none 0)/\F.1.kids=[]/\Pd E c F.2 w'/\Fr [c] w1 w'):=hid fun w1 hb=>IL (hP.below hb) 27 _ hF
 simp only [W0] at HB HN HL hcl;clear h hP hF
 go_in
 exact zap
end
end Rf
namespace Rf
open Go.RowKit
section
variable {E:Ev}{c:Nat}{s:St}{w:World}
set_option maxRecDepth 100000
set_option maxHeartbeats 4000000
theorem LG.get {w:World}{D:Nat->Prop}{b:Nat}:∀ (ks:List Tr) (o j:Nat) (t:Tr),LG w D b o ks->ks[j]?=some t->w.cell? ⟨b,o+5*j+2,none⟩=some (i8 (t.fr:Int))/\w.cell? ⟨b,o+5*j+3,none⟩=some (i8 (t.to:Int))
 | [],_,_,_,_,h=>Dd
 | u::r,o,0,t,⟨h1,_⟩,h=>by
  simp at h;subst h;obtain⟨k,wd,f,e,ks⟩:=u;obtain⟨_,_,_,_,h2,h3,_⟩:=h1;exact⟨h2,h3⟩
 | u::r,o,j+1,t,⟨_,h2⟩,h=>by
  have:=LG.get r (o+5) j t h2 Dp;rw [show o+5*(j+1)+2=o+5+5*j+2 by omega,show o+5*(j+1)+3=o+5+5*j+3 by omega];exact this
theorem iW (h:Pd E c s w) (k:UInt8) (ks:List Tr) (ka:Option Addr) (cap:Nat) (D:Nat->Prop) (hD:∀ b,D b->b < w.heap.size) (hk:eX0 w D ka ks) (hl:ks.length<=1099511627776) :
  Calls Tryz.prog 61 #[p8 c,.int .u8 (k.toNat:Int),.slice ka ks.length cap] w fun e w'=>(∃ ka' cap',e=.returned (tv (xC k ks s.n) ka' cap')/\(ks=[]∨(ka'=ka/\cap'=cap)))/\Below w.heap.size w w':=by
 have hP:=h.below YX0;have HB:=hid (Az (YX0 (w:=w)) (Az (VX4 (w:=w)) (KX0 h.blk)));obtain⟨_,_,_,h3,_⟩:=hP.cells;simp only [W0] at HB h3;clear hP h;rcases ks with _|⟨x,r⟩
 ·go_in
  go_wp2_with fail;generalize w.alloc (.cells #[.int .u8 0,i8 0,i8 0,i8 0,.slice none 0 0] 60)=w1 at *;obtain⟨q,hq⟩:∃ r,r=w.heap.size:=⟨_,rfl⟩;rw [<- hq] at HB ⊢;have HR:=hid hq;have hv:=pX0 HB.out.2.1;simp only [bX0] at hv;clear hq hk hD;go_region;go_wp2_with fail;exact xX2 (t:=xC k [] s.n) (ka:=none) (cap:=0) rfl rfl rfl (BX1 HB.out.2.1) ⟨⟨none,0,rfl,Cu⟩,Hb⟩
 ·obtain⟨b,o,rfl,hb,hr⟩:=hk.resolve_left Cu;obtain⟨y,hy⟩:∃ y,y=(x::r).getLast Cu:=⟨_,rfl⟩;have hly:(x::r)[r.length]?=some y:=by rw [hy,List.getLast_eq_getElem,O' Cu];simp
  have c0:=(LG.get _ _ 0 x hr rfl).1;have c1:=(LG.get _ _ _ y hr hly).2;have hbl:=hD b hb;have HB0:=hid (YX0 (w:=w));simp only [W0] at HB0;obtain⟨n,hn⟩:∃ n,n=r.length+1:=⟨_,rfl⟩;obtain⟨m,hm⟩:∃ m,m=r.length:=⟨_,rfl⟩;have hnn:(x::r).length=n:=by rw [hn];rfl
  have hT:xC k (x::r) s.n=.mk k (-1) x.fr y.to (x::r):=by rw [hy];rfl
  rw [hnn] at hl ⊢;rw [hT];rw [<- hm] at c1 hn;have i1:(n:Int) - 1=(m:Int):=Cs
  have i2:(0:Int)<=(m:Int):=Cs
  have i3:(m:Int) < (n:Int):=Cs
  have i4:(0:Int) < (n:Int):=Cs
  have i5:((n:Int)==0)=false:=Cv
  have c0':=aA HB0.out c0;have c1':=aA HB0.out c1;have HN:=hid hnn;have HNN:=hid hn;clear hr hly hy hnn hT hk hn hm hb hD c0 c1
  go_in
  go_wp2_with fail;generalize w.alloc (.cells #[.int .u8 0,i8 0,i8 0,i8 0,.slice none 0 0] 60)=w1 at *;obtain⟨q,hq⟩:∃ r,r=w.heap.size:=⟨_,rfl⟩;rw [<- hq] at HB hbl ⊢;have HR:=hid hq;have hv:=pX0 HB.out.2.1;simp only [bX0] at hv;rw [show o+5*0+2=o+2 by omega] at c0';rw [show o+5*m+3=o+m*5+3 by omega] at c1';clear hq HB0;go_region;go_wp2_with fail;have hv5:Value.slice (some (y8 b o)) n cap=.slice (some (y8 b o)) (Tr.mk k (-1) x.fr y.to (x::r)).kids.length cap:=by rw [show (Tr.mk k (-1) x.fr y.to (x::r)).kids.length=n from HN.out]
  rw [hv5];exact xX2 (t:=.mk k (-1) x.fr y.to (x::r)) (ka:=some (y8 b o)) (cap:=cap) rfl rfl rfl (BX1 HB.out.2.1) ⟨⟨some (y8 b o),cap,rfl,.inr ⟨rfl,rfl⟩⟩,Hb⟩
theorem SX2 (h:Pd E c s w) (i:Int) (L:List (List UInt8)) (hL:∀ x∈L,x≠[]) (b cap:Nat) (hb:b < w.heap.size) (hc:∀ j x,L[j]?=some x->w.cell? (y8 b j)=some (.string ⟨x.toArray⟩)) (hn:L.length<=1000) :
  Calls Tryz.prog 64 #[p8 c,i8 i,.slice (some (y8 b 0)) L.length cap] w fun e w'=>e=.returned (.bool (am E.toEnv i L))/\Below w.heap.size w w':=by
 have HH:=hid (Az h (Az hc hb));have HLL:=hid hL;obtain⟨T,hT⟩:∃ T,T=am E.toEnv i L:=⟨_,rfl⟩;rw [<- hT];obtain⟨n,hnn⟩:∃ n,n=L.length:=⟨_,rfl⟩;rw [<- hnn] at hn ⊢;have HT:=hid hT;have HN:=hid hnn;clear h hL hc hb hT hnn
 go_in
 go_wp2_with fail
 go_loopw [7] (fun u wr=>∃ j:Nat,u=i8 (j:Int)/\j<=n/\Below w.heap.size w wr/\am E.toEnv i (L.drop j)=T) (fun u _=>n - (intOf u).toNat)
 case atStart=>exact⟨0,rfl,Cs,N' _ _,HT.out.symm⟩
 case round =>
  obtain⟨j,rfl,hj,hbw,ht⟩:=hrel;have HB:=hid hbw;have HT2:=hid ht;clear hbw ht;by_cases hlt:j < n
  ·obtain⟨x,hx⟩:∃ x,L[j]?=some x:=⟨_,O' Dz⟩;have c0:=aA HB.out (HH.out.2.1 j x hx);have hdr:L.drop j=x::L.drop (j+1):=by
    have hj':=(Al.1 hx).1;rw [Aq hj',(Al.1 hx).2]
   have hx0:=HLL.out x (List.mem_of_getElem? hx);obtain⟨y,l,rfl⟩:∃ y l,x=y::l:=by
    cases x with
    | nil=>exact absurd rfl hx0
    | cons y l=>exact⟨y,l,rfl⟩
   have HI:=hid (nX1 (HH.out.1.below HB.out) i y l);have ht:=HT2.out;rw [hdr] at ht;have ht2:(E.word i==(y::l)||am E.toEnv i (L.drop (j+1)))=T:=by rw [<- ht];unfold am;rw [List.any_cons]
   have HT3:=hid ht2;have i0:(0:Int)<=(j:Int):=Cs
   have i1:(j:Int) < (n:Int):=Cs
   clear ht ht2 hdr hx hx0;go_wp2_with fail;refine HI.out.mono ?_;rintro e w2 ⟨rfl,hb2⟩;have HB2:=hid (dA HB.out hb2);clear hb2;cases hq:(E.word i==(y::l)) with
   | true =>
    go_wp2_with fail;go_ret;exact⟨by have:=HT3.out;rw [hq] at this;rw [<- this];rfl,HB2.out⟩
   | false =>
    go_wp2_with fail;go_roundw
    case rel=>exact⟨j+1,Eh,Cs,HB2.out,by have:=HT3.out;rw [hq] at this;simpa using this⟩
    case measure=>simp [intOf];omega
  ·have hjn:j=n:=by omega
   subst hjn;go_wp2_with fail;go_ret;exact⟨by have:=HT2.out;rw [HN.out,List.drop_length] at this;rw [<- this];rfl,HB.out⟩
end
end Rf
