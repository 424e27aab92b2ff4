import Derived.Test.YtjdllofmhglmiaaGreatDoorQAT
import Derived.Test.YtjdllofmhglmiaaGreatDoorQAC
namespace Go.Proofs.YtjdllofmhglmiaaGreatDoor
open Lib(hid)
set_option linter.all false
set_option maxHeartbeats 40000000
set_option maxRecDepth 100000
namespace Rf
open Go.RowKit
def fnR:RF->FuncId
 | .file=>32|.group=>63|.spec _=>101|.fn=>65|.signature=>55|.params=>86|.param=>131
 | .tparams=>102|.names=>135|.union=>136|.typ=>29|.bracketed _=>54|.members _=>56|.named=>49
 | .field=>88|.elem=>89|.exprs _=>93|.expr _=>30|.unary _=>90|.operand=>174|.primary _=>137
 | .dotted _ _=>175|.call _ _=>176|.indexed _ _=>177|.elements=>179|.value=>216|.stmts=>31|.block=>94
 | .stmt=>60|.simple _=>99|.rest _ _ _=>142|.ifs=>95|.switches=>96|.clauses _=>140|.cased _=>180
 | .selects=>97|.fors=>98
def PX9 (c:Nat) (ka:Option Addr) (cap:Nat):RF->Array Value
 | .exprs h|.expr h|.unary h|.primary h|.simple h=>#[p8 c,.bool h]
 | .bracketed fr=>#[p8 c,i8 (fr:Int)]
 | .clauses n|.cased n=>#[p8 c,i8 (n:Int)]
 | .spec w|.members w=>#[p8 c,.string ⟨w.toArray⟩]
 | .dotted x fr|.call x fr|.indexed x fr=>#[p8 c,tv x ka cap,i8 (fr:Int)]
 | .rest l fr h=>#[p8 c,tv l ka cap,i8 (fr:Int),.bool h]
 | _=>#[p8 c]
def DX9:RF->List Tr
 | .dotted x _|.call x _|.indexed x _=>x.kids
 | .rest l _ _=>l.kids
 | _=>[]
structure Dr (E:Ev) (S':RF->St->O Tr):Prop where
 t:∀ f c s w F (D0:Nat->Prop) ka cap,Pd E c s w->(∀ b,D0 b->b≠c/\b < w.heap.size)->eX0 w D0 ka (DX9 f)->S' f s=some F->Calls Tryz.prog (fnR f) (PX9 c ka cap f) w (Ans E c D0 w F)
abbrev OE:Value:=.slice none 0 0
section
variable {E:Ev}{S':RF->St->O Tr}{c:Nat}{D0:Nat->Prop}{w0 w:World}{B B':List (Nat × List TK)}{R:Option (Value × List TK)}{Hd:List (Tr × Option Addr)}{s:St}{F:Tr × St}{Q:Ending->World->Prop}
theorem RX5 {α:Type}{m:O α}{K:α->St->O Tr} (h:bnd m K=some F):∃ a s',m=some (a,s')/\K a s'=some F:=by
 cases hm:m with
 | none=>rw [hm] at h;cases h
 | some p=>obtain⟨a,s'⟩:=p;rw [hm] at h;exact⟨a,s',rfl,h⟩
theorem eX2 {m:O Tr}{K:Tr->St->O Tr}{f:FuncId}{args:Array Value}{D1:Nat->Prop} (H:Hid (Rx E c D0 w0 B R Hd s F (bnd m K) w)) (hC:∀ F',m=some F'->Calls Tryz.prog f args w (Ans E c D1 w F')) (hD:∀ b,D1 b->Dm D0 w0.heap.size (B.map Prod.fst) (rbk R) w b)
  (k:∀ t ka cap s' w',Hid (Rx E c D0 w0 B R ((t,ka)::Hd) s' F (K t s') w')->Q (.returned (tv t ka cap)) w'):Calls Tryz.prog f args w Q:=by
 obtain⟨t,s',hm,hK⟩:=RX5 H.out.eq;refine (hC _ hm).mono ?_;rintro e w' ⟨ka,cap,rfl,hp,hk,hf⟩;have h:=H.out;have h2:=h.later hf hp hK;refine k t ka cap s' w' (hid (h2.have' (hk.kept (fun _ _=>rfl) (fun b hb=>?_))));rcases hb with ⟨hb|hb,hb2⟩
 ·exact Dm.wider hf.size b (hD b hb)
 ·have hwz:=h.fr.size;refine⟨.inr Cs,hb2,fun e=>?_,fun e=>?_⟩
  ·obtain⟨⟨p,L⟩,hm,rfl⟩:=List.mem_map.1 e;have:=KX0 (h.blk p L hm).2.1;simp at hb;omega
  ·unfold rbk at e;cases hR:R with
   | none=>rw [hR] at e;cases e
   | some x =>
    obtain⟨v,L⟩:=x;rw [hR] at e;have:=((h.row v L hR).1.lt b e).2;omega
theorem jA {f:RF}{K:Tr->St->O Tr}{fn:FuncId}{args:Array Value} (HD:Hid (Dr E S')) (H:Hid (Rx E c D0 w0 B R Hd s F (bnd (S' f s) K) w)) {ka:Option Addr}{cap:Nat} (hfn:fnR f=fn) (hargs:PX9 c ka cap f=args) (hk:DX9 f=[]∨∃ t,(t,ka)∈Hd/\t.kids=DX9 f)
  (k:∀ t ka cap s' w',Hid (Rx E c D0 w0 B R ((t,ka)::Hd) s' F (K t s') w')->Q (.returned (tv t ka cap)) w'):Calls Tryz.prog fn args w Q:=by
 subst hfn hargs;exact eX2 H (fun F' hF=>HD.out.t f c s w F' (Dm D0 w0.heap.size (B.map Prod.fst) (rbk R) w) ka cap H.out.pd (fun b hb=>H.out.dm hb) (by
  rcases hk with h|⟨t,ht,h⟩
  ·rw [h];exact eX0.nil
  ·rw [<- h];exact H.out.hd _ ht) hF) (fun _ h=>h) k
theorem aE {m:O Tr} (H:Hid (Rx E c D0 w0 B R Hd s F m w)):Hid (Rx E c D0 w0 B R Hd s F (bnd m fun t s=>some (t,s)) w):=by rw [uX5];exact H
theorem nX5 {m:O Tr}{K:Tr->St->O Tr}{f:FuncId}{args:Array Value} (H:Hid (Rx E c D0 w0 B R Hd s F (bnd m K) w)) (hC:∀ F',m=some F'->Calls Tryz.prog f args w fun e w'=>e=.returned (tv F'.1 none 0)/\F'.1.kids=[]/\Pd E c F'.2 w'/\Fr [c] w w')
  (k:∀ t ka cap s' w',Hid (Rx E c D0 w0 B R ((t,ka)::Hd) s' F (K t s') w')->Q (.returned (tv t ka cap)) w'):Calls Tryz.prog f args w Q :=
 eX2 (D1:=fun _=>False) H (fun F' hF=>(hC F' hF).mono fun _ _ ⟨h1,h2,h3,h4⟩=>⟨none,0,h1,h3,by rw [h2];exact eX0.nil,h4⟩) (fun _ h=>h.elim) k
theorem lG {K:Tr->St->O Tr} (H:Hid (Rx E c D0 w0 B R Hd s F (bnd (DX0 E.toEnv s) K) w)) (k:∀ t ka cap s' w',Hid (Rx E c D0 w0 B R ((t,ka)::Hd) s' F (K t s') w')->Q (.returned (tv t ka cap)) w') :
  Calls Tryz.prog 62 #[p8 c] w Q:=nX5 H (fun F' hF=>EX6 H.out.pd hF) k
theorem kW {K:Tr->St->O Tr} (H:Hid (Rx E c D0 w0 B R Hd s F (bnd (yX4 E.toEnv s) K) w)) (k:∀ t ka cap s' w',Hid (Rx E c D0 w0 B R ((t,ka)::Hd) s' F (K t s') w')->Q (.returned (tv t ka cap)) w') :
  Calls Tryz.prog 143 #[p8 c] w Q:=nX5 H (fun F' hF=>kX7 H.out.pd hF) k
theorem pL {K:Tr->St->O Tr} (H:Hid (Rx E c D0 w0 B R Hd s F (bnd (lfM E.toEnv 27 true s) K) w)) (k:∀ t ka cap s' w',Hid (Rx E c D0 w0 B R ((t,ka)::Hd) s' F (K t s') w')->Q (.returned (tv t ka cap)) w') :
  Calls Tryz.prog 100 #[p8 c,.int .u8 27,.bool true] w Q:=nX5 H (fun F' hF=>IL H.out.pd 27 true hF) k
theorem kX0 {x:UInt8}{l:List UInt8}{K:Unit->St->O Tr} (H:Hid (Rx E c D0 w0 B R Hd s F (bnd (tk E.toEnv (x::l) s) K) w)) (k:∀ s' w',Hid (Rx E c D0 w0 B R Hd s' F (K () s') w')->Q (.returned (.tuple #[])) w') :
  Calls Tryz.prog 52 #[p8 c,.string ⟨(x::l).toArray⟩] w Q:=by
 refine (oX7 H.out.pd x l).mono ?_;rintro e w' ⟨rfl,hp,hf⟩;exact k _ w' (hid (H.out.later hf hp (X':=K () _) (by have:=H.out.eq;exact this)))
theorem rG {X:O Tr} (H:Hid (Rx E c D0 w0 B R Hd s F X w)) (k:∀ w',Hid (Rx E c D0 w0 B R Hd (vX0 s) F X w')->Q (.returned (.tuple #[])) w'):Calls Tryz.prog 35 #[p8 c] w Q:=by
 refine (VH H.out.pd).mono ?_;rintro e w' ⟨rfl,hp,hf⟩;exact k w' (hid (H.out.later hf hp H.out.eq))
theorem kB {X:O Tr}{f:FuncId}{args:Array Value}{v:Value} (H:Hid (Rx E c D0 w0 B R Hd s F X w)) (hC:Calls Tryz.prog f args w fun e w'=>e=.returned v/\Below w.heap.size w w') (k:∀ w',Hid (Rx E c D0 w0 B R Hd s F X w')->Q (.returned v) w'):Calls Tryz.prog f args w Q:=by
 refine hC.mono ?_;rintro e w' ⟨rfl,hb⟩;exact k w' (hid (H.out.below hb))
theorem IA {X:O Tr} (H:Hid (Rx E c D0 w0 B R Hd s F X w)) (k:∀ w',Hid (Rx E c D0 w0 B R ((vA 0 s.n,none)::Hd) s F X w')->Q (.returned (tv (vA 0 s.n) none 0)) w'):Calls Tryz.prog 58 #[p8 c] w Q :=
 kB H (wX6 H.out.pd) (fun w' H'=>k w' (hid (H'.out.have' (by exact eX0.nil))))
theorem mX3 {k1:UInt8}{wd:Int}{fr p cap n:Nat}{L:List TK}{ks:List Tr}{K:Tr->St->O Tr}{kv:Int} (H:Hid (Rx E c D0 w0 B R Hd s F (bnd (ret k1 wd fr ks s) K) w)) (hP:Del p L B B') (hks:L.map Prod.fst=ks) (hn:n=ks.length) (hkv:(k1.toNat:Int)=kv)
  (k:∀ t ka cap s' w',Hid (Rx E c D0 w0 B' R ((t,ka)::Hd) s' F (K t s') w')->Q (.returned (tv t ka cap)) w') :
  Calls Tryz.prog 53 #[p8 c,.int .u8 kv,i8 wd,i8 (fr:Int),.slice (some (y8 p 0)) n cap] w Q:=by
 subst hks hn hkv;obtain⟨h1,h2⟩:=H.out.give hP;refine (IX2 H.out.pd k1 wd fr (L.map Prod.fst) (some (y8 p 0)) cap).mono ?_;rintro e w' ⟨rfl,hb⟩;have h3:=(h1.have' (t:=.mk k1 wd fr s.n (L.map Prod.fst)) h2).below hb;have he:=H.out.eq;exact k _ _ cap s w' (hid ⟨h3.pd,h3.fr,h3.cw,h3.d0,h3.nd,h3.blk,h3.row,h3.hd,he⟩)
theorem DZ0 {m:O Tr}{K:Tr->St->O Tr} (H:Hid (Rx E c D0 w0 B R Hd s F (bnd m K) w)):Hid (Rx E c D0 w0 B R Hd s F (bnd m K) w):=H
theorem yX8 {k1:UInt8}{wd:Int}{fr:Nat}{K:Tr->St->O Tr}{kv:Int} (H:Hid (Rx E c D0 w0 B R Hd s F (bnd (ret k1 wd fr [] s) K) w)) (hkv:(k1.toNat:Int)=kv)
  (k:∀ t ka cap s' w',Hid (Rx E c D0 w0 B R ((t,ka)::Hd) s' F (K t s') w')->Q (.returned (tv t ka cap)) w') :
  Calls Tryz.prog 53 #[p8 c,.int .u8 kv,i8 wd,i8 (fr:Int),.slice none 0 0] w Q:=by
 subst hkv;refine (IX2 H.out.pd k1 wd fr [] none 0).mono ?_;rintro e w' ⟨rfl,hb⟩;have h3:=(H.out.have' (t:=.mk k1 wd fr s.n []) (ka:=none) eX0.nil).below hb;exact k _ _ 0 s w' (hid ⟨h3.pd,h3.fr,h3.cw,h3.d0,h3.nd,h3.blk,h3.row,h3.hd,H.out.eq⟩)
theorem AX2 {v:Value}{L:List TK}{X:O Tr} (h:Rx E c D0 w0 B (some (v,L)) Hd s F X w):∃ a cap,v=.slice a L.length cap/\Rx E c D0 w0 B none Hd s F X w/\eX0 w (Dm D0 w0.heap.size (B.map Prod.fst) none w) a (L.map Prod.fst):=by
 obtain⟨h1,h2,h3⟩:=h.row v L rfl;obtain⟨a,cap,rfl⟩:=xB h1;have hd:∀ b,Dm D0 w0.heap.size (B.map Prod.fst) (rbk (some (.slice a L.length cap,L))) w b->Dm D0 w0.heap.size (B.map Prod.fst) (rbk none) w b:=fun b hb=>⟨hb.1,hb.2.1,hb.2.2.1,Lb⟩
 have hk:∀ b,Dm D0 w0.heap.size (B.map Prod.fst) (rbk (some (.slice a L.length cap,L))) w b->w.heap[b]?=w.heap[b]?:=fun _ _=>rfl
 refine⟨a,cap,rfl,⟨h.pd,h.fr,h.cw,h.d0,h.nd,fun p M hm=>?_,fun _ _ e=>Ld,fun x hx=>(h.hd x hx).kept hk hd,h.eq⟩,?_⟩
 ·obtain⟨g1,g2,g3⟩:=h.blk p M hm;exact⟨g1,g2,fun x hx=>(g3 x hx).kept hk hd⟩
 ·by_cases hL:L=[]
  ·subst hL;exact eX0.nil
  ·rcases h1.2 with ⟨_,e0⟩|⟨g,cap',cur,e1,hg,hgo,h6,h7,h8,h9⟩
   ·exact absurd (Ac e0) hL
   ·cases e1;have hg2:Dm D0 w0.heap.size (B.map Prod.fst) none w g:=⟨.inr hg,KX0 hgo,h2 g rfl,Cu⟩;refine .inr ⟨g,0,rfl,hg2,LG.of L 0 [] (cur.toList.drop (L.length*5)) rfl (fun i u hi=>?_) (fun x hx=>(h3 x hx).kept hk hd)⟩;rw [Ar,<- h9,List.take_append_drop] at hi;rw [Array.getElem?_toList] at hi;simp [World.cell?,hgo,hi]
theorem VJ {v:Value}{L:List TK}{X:O Tr}{k1:UInt8}{kv:Int} (H:Hid (Rx E c D0 w0 B (some (v,L)) Hd s F X w)) (hl:L.length<=1099511627776) (hkv:(k1.toNat:Int)=kv) (k:∀ ka cap w',Hid (Rx E c D0 w0 B none ((xC k1 (L.map Prod.fst) s.n,ka)::Hd) s F X w')->Q (.returned (tv (xC k1 (L.map Prod.fst) s.n) ka cap)) w') :
  Calls Tryz.prog 61 #[p8 c,.int .u8 kv,v] w Q:=by
 subst hkv;obtain⟨a,cap,rfl,h1,h2⟩:=AX2 H.out;have h3:=iW h1.pd k1 (L.map Prod.fst) a cap _ (fun b hb=>hb.2.1) h2 (by simpa using hl);rw [List.length_map] at h3;refine h3.mono ?_;rintro e w' ⟨⟨ka',cap',rfl,hka⟩,hb⟩;refine k ka' cap' w' (hid ((h1.have' (ka:=ka') ?_).below hb));rw [vX2];rcases hka with h|⟨rfl,rfl⟩
 ·rw [h];exact eX0.nil
 ·exact h2
theorem RX9 {v:Value}{L:List TK}{X:O Tr} (H:Hid (Rx E c D0 w0 B (some (v,L)) Hd s F X w)):∃ a cap,v=.slice a L.length cap:=xB (H.out.row v L rfl).1
theorem TZ0 {f:FuncId}{a b d e:Value} (h:Calls Tryz.prog f #[a,b,d,e,.slice none 0 0] w Q):Calls Tryz.prog f #[a,b,d,e,.slice none 0 0] w Q:=h
theorem mX8 {v:Value}{L:List TK}{k1:UInt8}{kv wd:Int}{fr:Nat}{ks:List Tr}{K:Tr->St->O Tr} (H:Hid (Rx E c D0 w0 B (some (v,L)) Hd s F (bnd (ret k1 wd fr ks s) K) w)) (hks:L.map Prod.fst=ks) (hkv:(k1.toNat:Int)=kv)
  (k:∀ t ka cap s' w',Hid (Rx E c D0 w0 B none ((t,ka)::Hd) s' F (K t s') w')->Q (.returned (tv t ka cap)) w') :
  Calls Tryz.prog 53 #[p8 c,.int .u8 kv,i8 wd,i8 (fr:Int),v] w Q:=by
 subst hks hkv;obtain⟨a,cap,rfl,h1,h2⟩:=AX2 H.out;have h3:=IX2 h1.pd k1 wd fr (L.map Prod.fst) a cap;rw [List.length_map] at h3;refine h3.mono ?_;rintro e w' ⟨rfl,hb⟩;have h4:=(h1.have' (t:=.mk k1 wd fr s.n (L.map Prod.fst)) h2).below hb;have he:=H.out.eq;have ht:tv (.mk k1 wd fr s.n (L.map Prod.fst)) a cap=tv (.mk k1 wd fr s.n (L.map Prod.fst)) a cap:=rfl;exact k _ _ cap s w' (hid ⟨h4.pd,h4.fr,h4.cw,h4.d0,h4.nd,h4.blk,h4.row,h4.hd,he⟩)
theorem VZ0 {f:FuncId}{a b d e v:Value}{L:List TK}{X:O Tr} (_:Hid (Rx E c D0 w0 B (some (v,L)) Hd s F X w)) (h:Calls Tryz.prog f #[a,b,d,e,v] w Q):Calls Tryz.prog f #[a,b,d,e,v] w Q:=h
theorem tX1 {X:O Tr} (H:Hid (Rx E c D0 w0 B none Hd s F X w)):Hid (Rx E c D0 w0 B (some (OE,[])) Hd s F X w):=by
 have h:=H.out;have e:rbk (some (OE,([]:List TK)))=none:=by simp [rbk,Value.ownBlock]
 exact hid ⟨h.pd,h.fr,h.cw,h.d0,h.nd,by rw [e];exact h.blk,fun v L e=>by
  cases e;exact⟨Av _ _ _ _,fun b hb=>by simp [Value.ownBlock] at hb,fun x hx=>by simp at hx⟩,by rw [e];exact h.hd,h.eq⟩
theorem TX3 {X:O Tr}{p n:Nat}{L:List TK} (hP:Del p L B B') (H:Hid (Rx E c D0 w0 B none Hd s F X w)) (hn:n=L.length) (hl:L.length<=1000):Hid (Rx E c D0 w0 B' (some (.slice (some (y8 p 0)) n n,L)) Hd s F X w):=by
 subst hn;have h:=H.out;have hm:=hP.mem;obtain⟨hn,hnp⟩:=hP.nd h.nd;obtain⟨hp0,hpb,hpk⟩:=h.blk p L hm;have e:rbk (some (Value.slice (some (y8 p 0)) L.length L.length,L))=some p:=rfl;have hd:∀ b,Dm D0 w0.heap.size (B.map Prod.fst) (rbk none) w b->Dm D0 w0.heap.size (B'.map Prod.fst) (some p) w b:=fun b hb=>⟨hb.1,hb.2.1,fun e=>hb.2.2.1 (by
  obtain⟨y,hy,e⟩:=List.mem_map.1 e;exact List.mem_map.2 ⟨y,hP.sub hy,e⟩),fun e=>hb.2.2.1 (by cases e;exact List.mem_map.2 ⟨_,hm,rfl⟩)⟩
 have hk:∀ b,Dm D0 w0.heap.size (B.map Prod.fst) (rbk none) w b->w.heap[b]?=w.heap[b]?:=fun _ _=>rfl
 have hcl:∀ L:List TK,(lX0 L).length=L.length*5:=fun L=>by
  induction L with
  | nil=>rfl
  | cons x r ih=>simp only [lX0,V',ih,cel,Ae,Am];omega
 refine hid ⟨h.pd,h.fr,h.cw,h.d0,hn,fun q M hq=>?_,fun v L2 e=>?_,fun x hx=>by rw [e];exact (h.hd x hx).kept hk hd,h.eq⟩
 ·obtain⟨g1,g2,g3⟩:=h.blk q M (hP.sub hq);rw [e];exact⟨g1,g2,fun x hx=>(g3 x hx).kept hk hd⟩
 ·cases e;refine⟨⟨by rw [hcl],.inr ⟨p,L.length,(lX0 L).toArray,rfl,hp0,hpb,C' _,Da,by simp [hcl],?_⟩⟩,fun b hb=>?_,fun x hx=>(hpk x hx).kept hk hd⟩
  ·rw [Au (by simp [hcl])]
  ·simp [Value.ownBlock] at hb;subst hb;exact hnp
end
end Rf
namespace Rf
open Go.RowKit
abbrev c5 (t:Tr) (ka:Option Addr) (cap:Nat):List Value:=[.int .u8 (t.kind.toNat:Int),i8 t.word,i8 (t.fr:Int),i8 (t.to:Int),.slice ka t.kids.length cap]
theorem IX4 (t:Tr) (ka:Option Addr) (cap:Nat):∀ L:List TK,lX0 (L++[(t,ka,cap)])=lX0 L++c5 t ka cap
 | []=>rfl
 | x::r=>by simp only [Ao,lX0,IX4 t ka cap r,List.append_assoc]
section
variable {E:Ev}{S':RF->St->O Tr}{c:Nat}{D0:Nat->Prop}{w0 w:World}{B B':List (Nat × List TK)}{R:Option (Value × List TK)}{Hd:List (Tr × Option Addr)}{s:St}{F:Tr × St}{X:O Tr}{Q:Ending->World->Prop}
theorem hs0:∀ x∈[((zT,none,0):TK)],Hs Hd x:=fun x hx=>by simp at hx;subst hx;exact .inl rfl
theorem PX8 (h:Hid (Rx E c D0 w0 B R Hd s F X w)):Hid (Rx E c D0 w0 ((w.heap.size,[(zT,none,0)])::B) R Hd s F X (w.alloc (.cells #[.int .u8 0,i8 0,i8 0,i8 0,.slice none 0 0] 60))):=hid (h.out.al [(zT,none,0)] hs0)
theorem xX3 {t:Tr}{ka:Option Addr}{cap:Nat} (h:Hid (Rx E c D0 w0 B R Hd s F X w)) (h1:Hs Hd (t,ka,cap)) :
  Hid (Rx E c D0 w0 ((w.heap.size,[(t,ka,cap)])::B) R Hd s F X (w.alloc (.cells #[.int .u8 (t.kind.toNat:Int),i8 t.word,i8 (t.fr:Int),i8 (t.to:Int),.slice ka t.kids.length cap] 60))) :=
 hid (h.out.al [(t,ka,cap)] (fun x hx=>by simp at hx;subst hx;exact h1))
theorem cZ0 {n:Nat} (h:Hid (Rx E c D0 w0 B R Hd s F X w)):Hid (Rx E c D0 w0 ((w.heap.size,[(vA 0 n,none,0)])::B) R Hd s F X (w.alloc (.cells #[.int .u8 0,i8 (-1),i8 (n:Int),i8 (n:Int),.slice none 0 0] 60))):=xX3 (t:=vA 0 n) (ka:=none) (cap:=0) h (.inl rfl)
theorem aX7 {n:Nat}{kv:Int} (k:UInt8) (h:Hid (Rx E c D0 w0 B R Hd s F X w)) (hkv:(k.toNat:Int)=kv):Hid (Rx E c D0 w0 ((w.heap.size,[(vA k n,none,0)])::B) R Hd s F X (w.alloc (.cells #[.int .u8 kv,i8 (vA 0 n).word,i8 ((vA 0 n).fr:Int),i8 ((vA 0 n).to:Int),.slice none (vA 0 n).kids.length 0] 60))):=by
 subst hkv;exact xX3 (t:=vA k n) (ka:=none) (cap:=0) h (.inl rfl)
theorem ZX9 {t u:Tr}{ka kb:Option Addr}{cap cb:Nat} (h:Hid (Rx E c D0 w0 B R Hd s F X w)) (h1:Hs Hd (t,ka,cap)) (h2:Hs Hd (u,kb,cb)) :
  Hid (Rx E c D0 w0 ((w.heap.size,[(t,ka,cap),(u,kb,cb)])::B) R Hd s F X (w.alloc (.cells #[.int .u8 (t.kind.toNat:Int),i8 t.word,i8 (t.fr:Int),i8 (t.to:Int),.slice ka t.kids.length cap,.int .u8 (u.kind.toNat:Int),i8 u.word,i8 (u.fr:Int),i8 (u.to:Int),.slice kb u.kids.length cb] 60))) :=
 hid (h.out.al [(t,ka,cap),(u,kb,cb)] (fun x hx=>by simp at hx;rcases hx with rfl|rfl;exact h1;exact h2))
theorem nX7 {t u v:Tr}{ka kb kc:Option Addr}{cap cb cc:Nat} (h:Hid (Rx E c D0 w0 B R Hd s F X w)) (h1:Hs Hd (t,ka,cap)) (h2:Hs Hd (u,kb,cb)) (h3:Hs Hd (v,kc,cc)) :
  Hid (Rx E c D0 w0 ((w.heap.size,[(t,ka,cap),(u,kb,cb),(v,kc,cc)])::B) R Hd s F X (w.alloc (.cells #[.int .u8 (t.kind.toNat:Int),i8 t.word,i8 (t.fr:Int),i8 (t.to:Int),.slice ka t.kids.length cap,.int .u8 (u.kind.toNat:Int),i8 u.word,i8 (u.fr:Int),i8 (u.to:Int),.slice kb u.kids.length cb,
   .int .u8 (v.kind.toNat:Int),i8 v.word,i8 (v.fr:Int),i8 (v.to:Int),.slice kc v.kids.length cc] 60))) :=
 hid (h.out.al [(t,ka,cap),(u,kb,cb),(v,kc,cc)] (fun x hx=>by simp at hx;rcases hx with rfl|rfl|rfl;exact h1;exact h2;exact h3))
theorem UX9 {t u v y:Tr}{ka kb kc kd:Option Addr}{cap cb cc cd:Nat} (h:Hid (Rx E c D0 w0 B R Hd s F X w)) (h1:Hs Hd (t,ka,cap)) (h2:Hs Hd (u,kb,cb)) (h3:Hs Hd (v,kc,cc)) (h4:Hs Hd (y,kd,cd)) :
  Hid (Rx E c D0 w0 ((w.heap.size,[(t,ka,cap),(u,kb,cb),(v,kc,cc),(y,kd,cd)])::B) R Hd s F X (w.alloc (.cells #[.int .u8 (t.kind.toNat:Int),i8 t.word,i8 (t.fr:Int),i8 (t.to:Int),.slice ka t.kids.length cap,.int .u8 (u.kind.toNat:Int),i8 u.word,i8 (u.fr:Int),i8 (u.to:Int),.slice kb u.kids.length cb,
   .int .u8 (v.kind.toNat:Int),i8 v.word,i8 (v.fr:Int),i8 (v.to:Int),.slice kc v.kids.length cc,.int .u8 (y.kind.toNat:Int),i8 y.word,i8 (y.fr:Int),i8 (y.to:Int),.slice kd y.kids.length cd] 60))) :=
 hid (h.out.al [(t,ka,cap),(u,kb,cb),(v,kc,cc),(y,kd,cd)] (fun x hx=>by simp at hx;rcases hx with rfl|rfl|rfl|rfl;exact h1;exact h2;exact h3;exact h4))
theorem SX9 {t u v y z:Tr}{ka kb kc kd ke:Option Addr}{cap cb cc cd ce:Nat} (h:Hid (Rx E c D0 w0 B R Hd s F X w)) (h1:Hs Hd (t,ka,cap)) (h2:Hs Hd (u,kb,cb)) (h3:Hs Hd (v,kc,cc)) (h4:Hs Hd (y,kd,cd)) (h5:Hs Hd (z,ke,ce)) :
  Hid (Rx E c D0 w0 ((w.heap.size,[(t,ka,cap),(u,kb,cb),(v,kc,cc),(y,kd,cd),(z,ke,ce)])::B) R Hd s F X (w.alloc (.cells #[.int .u8 (t.kind.toNat:Int),i8 t.word,i8 (t.fr:Int),i8 (t.to:Int),.slice ka t.kids.length cap,.int .u8 (u.kind.toNat:Int),i8 u.word,i8 (u.fr:Int),i8 (u.to:Int),.slice kb u.kids.length cb,
   .int .u8 (v.kind.toNat:Int),i8 v.word,i8 (v.fr:Int),i8 (v.to:Int),.slice kc v.kids.length cc,.int .u8 (y.kind.toNat:Int),i8 y.word,i8 (y.fr:Int),i8 (y.to:Int),.slice kd y.kids.length cd,
   .int .u8 (z.kind.toNat:Int),i8 z.word,i8 (z.fr:Int),i8 (z.to:Int),.slice ke z.kids.length ce] 60))) :=
 hid (h.out.al [(t,ka,cap),(u,kb,cb),(v,kc,cc),(y,kd,cd),(z,ke,ce)] (fun x hx=>by simp at hx;rcases hx with rfl|rfl|rfl|rfl|rfl;exact h1;exact h2;exact h3;exact h4;exact h5))
theorem KX9 {vs:Array Value} (h:Hid (Rx E c D0 w0 B R Hd s F X w)):Hid (Rx E c D0 w0 B R Hd s F X (w.alloc (.cells vs 9))):=hid (h.out.below ((N' _ _).alloc (C' _) _))
theorem CX4 {p:Nat}{x:TK}{t:Tr}{ka:Option Addr}{cap:Nat} (h:Hid (Rx E c D0 w0 B R Hd s F X w)) (hP:Put p [x] [(t,ka,cap)] B B') (h1:Hs Hd (t,ka,cap)) :
  Hid (Rx E c D0 w0 B' R Hd s F X (((((w.setCell (y8 p 0) (.int .u8 (t.kind.toNat:Int))).setCell (y8 p 1) (i8 t.word)).setCell (y8 p 2) (i8 (t.fr:Int))).setCell (y8 p 3) (i8 (t.to:Int))).setCell (y8 p 4) (.slice ka t.kids.length cap))) :=
 hid (h.out.put hP (fun y hy=>by simp at hy;subst hy;exact h1) PX0 (ZX0 (h.out.blk p _ hP.mem).2.1 Im))
theorem UX6 {p:Nat}{x:TK} (h:Hid (Rx E c D0 w0 B R Hd s F X w)) (hP:Put p [x] [(zT,none,0)] B B') :
  Hid (Rx E c D0 w0 B' R Hd s F X (((((w.setCell (y8 p 0) (.int .u8 0)).setCell (y8 p 1) (i8 0)).setCell (y8 p 2) (i8 0)).setCell (y8 p 3) (i8 0)).setCell (y8 p 4) (.slice none 0 0))) :=
 hid (h.out.put hP hs0 PX0 (ZX0 (h.out.blk p _ hP.mem).2.1 Im))
theorem dB {p n:Nat}{kv:Int} (k:UInt8) (h:Hid (Rx E c D0 w0 B R Hd s F X w)) (hP:Put p [(vA 0 n,none,0)] [(vA k n,none,0)] B B') (hkv:(k.toNat:Int)=kv):Hid (Rx E c D0 w0 B' R Hd s F X (w.setCell (y8 p 0) (.int .u8 kv))):=by
 subst hkv;have hb:=(h.out.blk p _ hP.mem).2.1;refine hid (h.out.put hP (fun y hy=>Jl) (YX1 rfl) ?_);rw [heap_setCell_same w p 0 _ _ _ hb]
 rfl
theorem wX9 {p n:Nat}{kv:Int}{x:TK} (k:UInt8) (h:Hid (Rx E c D0 w0 B R Hd s F X w)) (hP:Put p [x] [(vA k n,none,0)] B B') (hkv:(k.toNat:Int)=kv) :
  Hid (Rx E c D0 w0 B' R Hd s F X (((((w.setCell (y8 p 0) (.int .u8 kv)).setCell (y8 p 1) (i8 (vA 0 n).word)).setCell (y8 p 2) (i8 ((vA 0 n).fr:Int))).setCell (y8 p 3) (i8 ((vA 0 n).to:Int))).setCell (y8 p 4) (.slice none (vA 0 n).kids.length 0))):=by
 subst hkv;exact hid (h.out.put hP (fun y hy=>Jl) PX0 (ZX0 (h.out.blk p _ hP.mem).2.1 Im))
theorem pB {b:Nat × List TK} (h:Hid (Rx E c D0 w0 (b::B) R Hd s F X w)):Hid (Rx E c D0 w0 B R Hd s F X w):=hid (h.out.give (p:=b.1) (L:=b.2) (Del.here B)).1
theorem QZ0 (h:Hid (Rx E c D0 w0 B R Hd s F X w)) (hl:Hid (s.n < E.l.length)):Hid (Rx E c D0 w0 B R Hd s.up F X (w.setCell (y8 c 3) (i8 ((s.n:Int)+1)))):=by
 have hp:=h.out.pd.moved (s.n+1) hl.out;exact hid (h.out.later (YX1 rfl) (by simpa [St.up] using hp) h.out.eq)
theorem AZ0 (h:Hid (Rx E c D0 w0 B R Hd s F X w)) (hl:Hid (s.n < E.l.length)):Hid (Rx E c D0 w0 B R Hd s F X ((w.setCell (y8 c 3) (i8 ((s.n:Int)+1))).setCell (y8 c 3) (i8 (s.n:Int)))):=by
 have hp:=(h.out.pd.moved (s.n+1) hl.out).moved s.n (Nat.le_of_lt hl.out);exact hid (h.out.later ((YX1 (a:=(y8 c 3)) rfl).trans (YX1 (a:=(y8 c 3)) rfl)) Li h.out.eq)
theorem mZ0 (h:Hid (Rx E c D0 w0 B R Hd s F X w)) (hl:Hid (s.n+1 < E.l.length)):Hid (Rx E c D0 w0 B R Hd ⟨s.n+2,s.b⟩ F X (w.setCell (y8 c 3) (i8 ((s.n:Int)+2)))):=by
 have hp:=h.out.pd.moved (s.n+2) hl.out;exact hid (h.out.later (YX1 (a:=(y8 c 3)) rfl) Li h.out.eq)
theorem yC (h:Hid (Rx E c D0 w0 B R Hd s F X w)):Hid (Rx E c D0 w0 B R Hd s F X w.drew):=hid (h.out.below (N' _ _).drew)
theorem MX8 {r:Nat}{t:Tr}{ka:Option Addr}{cap:Nat} (h:Hid (Rx E c D0 w0 B R Hd s F (some (t,s)) w)) (hm:(r,[(t,ka,cap)])∈B):w.heap[r]?=some (.cells (lX0 [(t,ka,cap)]).toArray 60 (0,0))/\Ans E c D0 w0 F (.returned (tv t ka cap)) w:=by
 obtain⟨h1,h2,h3⟩:=h.out.blk r _ hm;have he:=h.out.eq;simp at he;subst he;exact⟨h2,ka,cap,rfl,h.out.pd,(h3 _ (Bj ..)).kept (fun _ _=>rfl) (fun b hb=>⟨hb.1,hb.2.1⟩),h.out.fr⟩
theorem yX7 {fn:Func}{i:Nat} (hf:fn.results=#[.cell i 60]) {a:Act}{r:Nat}{t:Tr}{ka:Option Addr}{cap:Nat} (h:Hid (Rx E c D0 w0 B R Hd s F (some (t,s)) w)) (ht:a.tmps.getD i undef=p8 r) (hd:a.defers=[]) (hm:(r,[(t,ka,cap)])∈B) :
  bodyPost Tryz.prog fn (Ans E c D0 w0 F) .ret a w:=xX2 hf ht hd (MX8 h hm).1 (MX8 h hm).2
theorem iC {ops:Array Oper}{rest:List Oper}{o:Oper}{a:Act}{Q:Exit->Act->World->Prop} (hgd:o.guard=none) (s1 x:Operand) (ho:o.op=.call { callee:=.builtin .append,args:=#[s1,x],argTypes:=#[58,58] })
  {v:Value}{L:List TK}{t:Tr}{ka:Option Addr}{cap:Nat} (h:Hid (Rx E c D0 w0 B (some (v,L)) Hd s F X w)) (h1:Hs Hd (t,ka,cap)) (hs:a.eval s1=v) {b:Nat} (hx:a.eval x=.slice (some (y8 b 0)) 1 1) (hb:b=w.heap.size) (hsm:L.length<=1000000000000)
  (hQ:∀ v' w',Hid (Rx E c D0 w0 B (some (v',L++[(t,ka,cap)])) Hd s F X w')->wpList Tryz.prog ops Q rest (a.put o.dst v') w') :
  wpList Tryz.prog ops Q (o::rest) a (w.alloc (.cells #[.int .u8 (t.kind.toNat:Int),i8 t.word,i8 (t.fr:Int),i8 (t.to:Int),.slice ka t.kids.length cap] 60)):=by
 subst hb;obtain⟨iP,hiP,hz0,hz1,hz2⟩:=info_parts Tryz.infoT;have hh:=h.out;obtain⟨g1,g2,g3⟩:=hh.row v L rfl;have hz:=hh.fr.size;have hB:=(N' w.heap.size w).alloc (C' _) (Obj.cells #[.int .u8 (t.kind.toNat:Int),i8 t.word,i8 (t.fr:Int),i8 (t.to:Int),.slice ka t.kids.length cap] 60);have ha5:(w.alloc (Obj.cells #[.int .u8 (t.kind.toNat:Int),i8 t.word,i8 (t.fr:Int),i8 (t.to:Int),.slice ka t.kids.length cap] 60)).heap.size=w.heap.size+1:=Cu
 refine wpList_append_own_at _ hgd s1 x 58 ho w0.heap.size 60 iP _ 5 56 Tryz.underlying58 hiP hz0 hz1 hz2 rfl Ct v L.length (lX0 L) hs (g1.alloc _) (y8 w.heap.size 0) 1 1 (c5 t ka cap) hx rfl
  (At (cs:=#[.int .u8 (t.kind.toNat:Int),i8 t.word,i8 (t.fr:Int),i8 (t.to:Int),.slice ka t.kids.length cap]) (t:=60) (fr:=(0,0)) (B8 w _)) Dq Da Cs Cs ?_
 intro v' w' hown hgrow _ hat;have hg5:=hgrow.size;have hX:Fr (YD v) (w.alloc (Obj.cells #[.int .u8 (t.kind.toNat:Int),i8 t.word,i8 (t.fr:Int),i8 (t.to:Int),.slice ka t.kids.length cap] 60)) w':=Fr.grown hgrow (fun k hk=>Gl);have hXm:∀ i∈YD v,v.ownBlock=some i/\w0.heap.size<=i/\i < w.heap.size:=by
  intro i hi;unfold YD at hi;split at hi
  ·rename_i b2 hb2;simp at hi;subst hi;exact⟨hb2,(g1.lt _ hb2).1,(g1.lt _ hb2).2⟩
  ·simp at hi
 have hcw:=hh.cw;have hrb:rbk (some (v,L))=v.ownBlock:=rfl;have hrb':rbk (some (v',L++[(t,ka,cap)]))=v'.ownBlock:=rfl;have hk:∀ b,Dm D0 w0.heap.size (B.map Prod.fst) (rbk (some (v,L))) w b->w'.heap[b]?=w.heap[b]?:=fun b hb=>by
  have hb4:=hb.2.2.2;rw [hX.block b Fc (fun e=>hb4 (by rw [hrb];exact (hXm b e).1))];exact hB.block b hb.2.1
 have hd:∀ b,Dm D0 w0.heap.size (B.map Prod.fst) (rbk (some (v,L))) w b->Dm D0 w0.heap.size (B.map Prod.fst) (rbk (some (v',L++[(t,ka,cap)]))) w' b:=fun b hb=>⟨hb.1,Fc,hb.2.2.1,by
  rw [hrb'];rcases hat with e|e
  ·rw [e];exact hb.2.2.2
  ·rw [e];intro e2;cases e2;have:=hb.2.1;omega⟩
 have hcl:lX0 (L++[(t,ka,cap)])=lX0 L++c5 t ka cap:=IX4 t ka cap L;have hbB:∀ p M,(p,M)∈B->p < w.heap.size/\v.ownBlock≠some p:=fun p M hm=>⟨KX0 (hh.blk p M hm).2.1,fun e=>g2 p e (List.mem_map.2 ⟨_,hm,rfl⟩)⟩
 refine hQ v' w' (hid ⟨?_,?_,hh.cw,hh.d0,hh.nd,fun p M hm=>?_,fun v2 L2 e=>?_,fun y hy=>(hh.hd y hy).kept hk hd,hh.eq⟩)
 ·exact (hh.pd.below hB).later hX (fun i hi=>F5)
 ·exact (hh.fr.trans (jX1 hB)).trans' hX (fun i hi=>.inr (hXm i hi).2.1)
 ·obtain⟨q1,q2,q3⟩:=hh.blk p M hm;refine⟨q1,?_,fun y hy=>(q3 y hy).kept hk hd⟩;rw [hX.block p (by have:=(hbB p M hm).1;omega) (fun e=>(hbB p M hm).2 (hXm p e).1),hB.block p (hbB p M hm).1];exact q2
 ·cases e;refine⟨by rw [hcl,V'];exact hown,fun b hb e=>?_,fun y hy=>?_⟩
  ·obtain⟨⟨p,M⟩,hm,rfl⟩:=List.mem_map.1 e;rcases hat with e2|e2
   ·rw [e2] at hb;exact (hbB p M hm).2 hb
   ·rw [e2] at hb;simp at hb;have:=(hbB p M hm).1;omega
  ·rcases List.mem_append.1 hy with hy|hy
   ·exact (g3 y hy).kept hk hd
   ·simp at hy;subst hy;rcases h1 with e|hm
    ·rw [e];exact eX0.nil
    ·exact (hh.hd _ hm).kept hk hd
end
end Rf
namespace Rf
open Go.RowKit
inductive Strs:List Value->List (List UInt8)->Prop
 | nil:Strs [] []
 | cons (x:List UInt8) {vs:List Value}{L:List (List UInt8)}:Strs vs L->Strs (.string ⟨x.toArray⟩::vs) (x::L)
theorem Strs.at {vs:List Value}{L:List (List UInt8)} (h:Strs vs L):vs.length=L.length/\∀ (j:Nat) (x:List UInt8),L[j]?=some x->vs[j]?=some (Value.string ⟨x.toArray⟩):=by
 induction h with
 | nil=>exact⟨rfl,fun j x hx=>by simp at hx⟩
 | cons y _ ih =>
  refine⟨by simp [ih.1],fun j x hx=>?_⟩;cases j with
  | zero=>simp at hx;subst hx;rfl
  | succ j=>simpa using ih.2 j x Hm
structure Bx (E:Ev) (c:Nat) (s:St) (w0 w:World):Prop where
 pd:Pd E c s w
 bel:Below w0.heap.size w0 w
section
variable {E:Ev}{c:Nat}{s:St}{w0 w:World}{Q:Ending->World->Prop}
theorem oX1 {f:FuncId}{args:Array Value}{v:Value} (H:Hid (Bx E c s w0 w)) (hC:Calls Tryz.prog f args w fun e w'=>e=.returned v/\Below w.heap.size w w') (k:∀ w',Hid (Bx E c s w0 w')->Q (.returned v) w'):Calls Tryz.prog f args w Q:=by
 refine hC.mono ?_;rintro e w' ⟨rfl,hb⟩;exact k w' (hid ⟨H.out.pd.below hb,dA H.out.bel hb⟩)
theorem RX3 (h:Pd E c s w) (i:Int) {vs:List Value}{L:List (List UInt8)} (hS:Strs vs L) (hL:∀ x∈L,x≠[]) (hn:L.length<=1000) {b n cap:Nat} (hb:b=w.heap.size) (hnn:n=L.length) :
  Calls Tryz.prog 64 #[p8 c,i8 i,.slice (some (y8 b 0)) n cap] (w.alloc (.cells vs.toArray 9)) fun e w'=>e=.returned (.bool (am E.toEnv i L))/\Below (w.alloc (.cells vs.toArray 9)).heap.size (w.alloc (.cells vs.toArray 9)) w':=by
 subst hb hnn;have hb:=B8 w (.cells vs.toArray 9);refine SX2 (h.below ((N' _ _).alloc (C' _) _)) i L hL w.heap.size cap Cu (fun j x hx=>?_) hn;have:=hS.at.2 j x hx;generalize w.alloc (.cells vs.toArray 9)=w1 at *;simp [World.cell?,hb,this]
theorem pX4 {i:Int}{vs:List Value}{L:List (List UInt8)}{b n cap:Nat} (H:Hid (Bx E c s w0 w)) (hS:Strs vs L) (hL:∀ x∈L,x≠[]) (hn:L.length<=1000) (hb:b=w.heap.size) (hnn:n=L.length) (k:∀ w',Hid (Bx E c s w0 w')->Q (.returned (.bool (am E.toEnv i L))) w') :
  Calls Tryz.prog 64 #[p8 c,i8 i,.slice (some (y8 b 0)) n cap] (w.alloc (.cells vs.toArray 9)) Q:=by
 have hB:=(N' w.heap.size w).alloc (C' _) (Obj.cells vs.toArray 9);refine (RX3 H.out.pd i hS hL hn hb hnn).mono ?_;rintro e w' ⟨rfl,hb⟩;exact k w' (hid ⟨(H.out.pd.below hB).below hb,dA (dA H.out.bel hB) hb⟩)
end
theorem JX7 {P:Prop} (hh:P:=by repeat' first|exact Strs.nil|apply Strs.cons):P:=hh
section
variable {E:Ev}{c:Nat}{s:St}{w:World}
set_option maxRecDepth 100000
set_option maxHeartbeats 4000000
theorem MX5 (h:Pd E c s w) (n:Nat) (hn:n<=1099511627777):Calls Tryz.prog 134 #[p8 c,i8 (n:Int)] w fun e w'=>e=.returned (i8 (RX0 E.toEnv n))/\Below w.heap.size w w':=by
 have HI:=hid (nX1 h (n:Int) 91 []);cases hi:(E.word (n:Int)==[91]) with
 | false =>
  have hb:RX0 E.toEnv (n:Int)=-1:=by
   unfold RX0 across;have:¬ (E.word (n:Int)=[91]/\E.pair.getD (n:Int).toNat 0≠(n:Int)+1):=fun e=>by rw [e.1] at hi;simp at hi
   rw [Bc this];rfl
  rw [hb];rw [hi] at HI;clear hi hb h
  go_in
  go_wp2_with fail;refine HI.out.mono ?_;rintro e w2 ⟨rfl,hb⟩;exact zbr
 | true =>
  have hw:E.word (n:Int)=[91]:=B7 hi;have hl:n < E.l.length:=gA (E:=E.toEnv) (x:=91) (w:=[]) (by unfold Env.is;rw [hi]);have hlp:n < E.pair.length:=by rw [h.prs.same];exact hl
  obtain⟨x,hx⟩:∃ x,E.pair[n]?=some x:=⟨_,O' hlp⟩;obtain⟨b,o,hpa,_,c0⟩:=h.prs.pairs n x hx;have hxx:=h.prs.within x (List.mem_of_getElem? hx);have hgd:E.pair.getD (n:Int).toNat 0=x:=by rw [List.getD_eq_getElem?_getD,Ai,hx];rfl
  have hb:RX0 E.toEnv (n:Int)=if x=(n:Int)+1 then -1 else x+1:=by
   unfold RX0 across;rw [hgd,hw];by_cases e:x=(n:Int)+1
   ·simp [e]
   ·simp [e]
  rw [hb];rw [hi] at HI;obtain⟨_,_,h2,_,_⟩:=h.cells;rw [hpa] at h2;have HC:=hid (fun (w1:World) (hw:Below w.heap.size w w1)=>Az (aA hw h2) (aA hw c0));have i0:(0:Int)<=(n:Int):=Cs
  have i1:(n:Int) < (E.pair.length:Int):=Cs
  have i2:(n:Int)<=1099511627777:=Cs
  have i3:-1<=x:=hxx.1;have i4:x<=1099511627776:=hxx.2;clear hi hb h hw hl hlp hx hpa hgd hxx h2 c0;obtain⟨T,hT⟩:∃ T,T=if x=(n:Int)+1 then -1 else x+1:=⟨_,rfl⟩
  rw [<- hT];by_cases e:x=(n:Int)+1
  rotate_left
  ·have HT:=hid hT;clear hT
   go_in
   go_wp2_with fail;refine HI.out.mono ?_;rintro e' w2 ⟨rfl,hb⟩;obtain⟨q0,q1⟩:=HC.out w2 hb;have HB:=hid hb;clear hb;go_wp2_with fail;go_ret;exact⟨by rw [HT.out,Bc e];rfl,HB.out⟩
  have HT:=hid hT;clear hT
  go_in
  go_wp2_with fail;refine HI.out.mono ?_;rintro e' w2 ⟨rfl,hb⟩;obtain⟨q0,q1⟩:=HC.out w2 hb;have HB:=hid hb;clear hb;go_wp2_with fail;go_ret;exact⟨by rw [HT.out,Bb e];rfl,HB.out⟩
theorem uX4 (h:Pd E c s w):Calls Tryz.prog 87 #[p8 c] w fun e w'=>e=.returned (.bool (xX1 E.toEnv s))/\Below w.heap.size w w':=by
 have H:Hid (Bx E c s w w):=hid ⟨h,N' _ _⟩;unfold xX1;clear h;have h3:=H.out.pd.cells.2.2.2.1
 go_in
 go_wp2_with fail;refine oX1 H (tX2 H.out.pd _) ?_;intro w H;replace h3:=H.out.pd.cells.2.2.2.1;cases hn:E.named (s.n:Int) with
 | true=>go_wp2_with fail;go_ret;exact⟨Lc,H.out.bel⟩
 | false =>
  exact ze3
theorem BX5 (h:Pd E c s w):Calls Tryz.prog 59 #[p8 c] w fun e w'=>e=.returned (.bool (OX0 E.toEnv s))/\Below w.heap.size w w':=by
 have H:Hid (Bx E c s w w):=hid ⟨h,N' _ _⟩;unfold OX0;clear h;have h4:=H.out.pd.cells.2.2.2.2;cases ho:s.ok with
 | false =>
  have d:¬ bv s.b < 0:=fun e=>Dh
  have d2:0<=bv s.b:=Cs
  clear d
  go_in
  exact za7
 | true =>
  have d:¬ (0:Int)<=bv s.b:=by
   have:bv s.b < 0:=MX1.1 Dw;omega
  go_in
  go_wp2_with fail;refine oX1 H (hX3 H.out.pd) ?_;intro w H;have h3:=H.out.pd.cells.2.2.2.1;clear h4;cases hn:ends E.toEnv s with
  | true=>go_wp2_with fail;go_ret;exact⟨Lc,H.out.bel⟩
  | false =>
   exact ze3
theorem JX5 (h:Pd E c s w):Calls Tryz.prog 92 #[p8 c] w fun e w'=>e=.returned (.bool (hushed E.toEnv s))/\Below w.heap.size w w':=by
 have H:Hid (Bx E c s w w):=hid ⟨h,N' _ _⟩;unfold hushed;clear h
 go_in
 go_wp2_with fail;refine oX1 H (dX0 H.out.pd 59 []) ?_;intro w H;cases hn:nx E.toEnv [59] s with
 | true=>go_wp2_with fail;go_ret;exact⟨Lc,H.out.bel⟩
 | false =>
  go_wp2_with fail;refine oX1 H (dX0 H.out.pd 125 []) ?_;intro w H;cases hn:nx E.toEnv [125] s with
  | true=>go_wp2_with fail;go_ret;exact⟨Lc,H.out.bel⟩
  | false =>
   go_wp2_with fail;refine oX1 H (hX3 H.out.pd) ?_;intro w H;exact za7
theorem NX7 (h:Pd E c s w) (i:Int):Calls Tryz.prog 133 #[p8 c,i8 i] w fun e w'=>e=.returned (.bool (shutI E.toEnv i))/\Below w.heap.size w w':=by
 have H:Hid (Bx E c s w w):=hid ⟨h,N' _ _⟩;unfold shutI;clear h;by_cases hi:0<=i
 ·have d:decide (0<=i)=true:=decide_eq_true hi;rw [d,Bool.true_and];clear d
  go_in
  go_wp2_with fail;refine pX4 H JX7 Cu Ct rfl rfl ?_;intro w H;cases hn:am E.toEnv i [[59],[125]] with
  | true=>go_wp2_with fail;go_ret;exact⟨Lc,H.out.bel⟩
  | false =>
   go_wp2_with fail;refine oX1 H (GX1 H.out.pd _) ?_;intro w H;exact za7
 ·have d:decide (0<=i)=false:=decide_eq_false hi;rw [d,Bool.false_and];clear d
  go_in
  go_wp2_with fail;go_ret;exact⟨rfl,H.out.bel⟩
theorem qX5 (h:Pd E c s w):Calls Tryz.prog 141 #[p8 c] w fun e w'=>e=.returned (.bool (QX0 E.toEnv s))/\Below w.heap.size w w':=by
 have H:Hid (Bx E c s w w):=hid ⟨h,N' _ _⟩;have hr:QX0 E.toEnv s=(s.ok&&((E.word (s.n:Int)==[61])||(E.word (s.n:Int)==[58,61]))&&(E.word ((s.n:Int)+1)==[114,97,110,103,101])):=by
  unfold QX0 Env.is;simp
 rw [hr];have hsm:((s.n:Nat):Int)<=1099511627776:=Em
 clear h hr;have h4:=H.out.pd.cells.2.2.2.2;cases ho:s.ok with
 | false =>
  have d:¬ bv s.b < 0:=fun e=>Dh
  go_in
  exact za7
 | true =>
  have d:bv s.b < 0:=MX1.1 Dw;have h3:=H.out.pd.cells.2.2.2.1
  go_in
  go_wp2_with fail;refine oX1 H (nX1 H.out.pd _ _ _) ?_;intro w H;replace h3:=H.out.pd.cells.2.2.2.1;clear h4;cases hn:(E.word (s.n:Int)==[61]) with
  | true =>
   exact ze6
  | false =>
   go_wp2_with fail;refine oX1 H (nX1 H.out.pd _ _ _) ?_;intro w H;replace h3:=H.out.pd.cells.2.2.2.1;cases hn2:(E.word (s.n:Int)==[58,61]) with
   | true =>
    exact ze6
   | false =>
    exact za7
end
end Rf
namespace Rf
open Go.RowKit
theorem sX5 {E:Ev}{c:Nat}{s:St}{w:World}{F:Tr × St}{D0:Nat->Prop} (h:Pd E c s w) (x:Tr) (xa:Option Addr) (xc:Nat) (hd0:∀ b,D0 b->b≠c/\b < w.heap.size) (hx:eX0 w D0 xa x.kids) (hF:XX0 x s=some F) :
  Calls Tryz.prog 138 #[p8 c,tv x xa xc] w (Ans E c D0 w F):=by
 have H1:=(xX3 (t:=x) (ka:=xa) (cap:=xc) (hid (Rx.start (D0:=D0) (Hd:=[(x,xa)]) h hd0 (fun _ h=>Fx) hF)) (.inr (Bj ..)));have H:=PX8 H1;simp only [World.size_alloc] at H;have hcl:=H.out.pd.cells.2.2.2.2;have hr:=pX0 (H.out.blk _ _ (Bj ..)).2.1;have hp:=pX0 (H.out.blk _ _ (Bm _ (Bj ..))).2.1;have hkx:=H1.out.hd _ (Bj ..);clear h hF hd0 hx;by_cases hh:(!s.ok||x.kind != 50)=true
 ·have hd:(bv s.b < 0/\((x.kind.toNat:Int) != 50)=true)∨0<=bv s.b:=by
   cases hb:s.b with
   | none =>
    refine .inl ⟨by simp [bv],?_⟩;simp only [St.ok,hb,Option.isNone_none,Bool.not_true,Bool.false_or,bne_iff_ne] at hh;simp only [bne_iff_ne];intro e;exact hh (UInt8.toNat.inj (show x.kind.toNat=50 by omega))
   | some k=>exact .inr (by simp [bv])
  have H:Hid (Rx E c D0 w _ none _ s F (some (zT,vX0 s)) _):=hid ⟨H.out.pd,H.out.fr,H.out.cw,H.out.d0,H.out.nd,H.out.blk,H.out.row,H.out.hd,by have:=H.out.eq;unfold XX0 at this;rw [Bb hh] at this;exact this⟩;clear hh hkx H1;simp only [bX0] at hr hp;rcases hd with ⟨d,d2⟩|d
  all_goals
   go_in
   go_wp2_with fail;refine rG H ?_;intro w2 H;clear hr hp hcl;have hr:=pX0 (H.out.blk _ _ (Bj ..)).2.1;simp only [bX0] at hr;go_wp2_with fail;exact yX7 rfl (UX6 H (Put.here _)) rfl rfl (Bj ..)
 ·have hk:x.kind=50/\s.b=none:=by
   simp only [Bv,Bool.not_eq_true',not_or,bne_iff_ne,Decidable.not_not] at hh;refine⟨hh.2,?_⟩;cases hb:s.b with
   | none=>rfl
   | some k=>have:=hh.1;simp [St.ok,hb] at this
  obtain⟨hk,hb⟩:=hk;have d:bv s.b < 0:=by rw [hb];simp [bv]
  have d2:((x.kind.toNat:Int) != 50)=false:=Ks
  obtain⟨y,r,hyr⟩:∃ y r,x.kids=y::r:=by
   have:=H.out.eq;unfold XX0 at this;rw [Bc hh] at this;cases hx:x.kids with
   | nil=>rw [hx] at this;cases this
   | cons y r=>exact⟨y,r,rfl⟩
  have key:∀ (W:World) (D:Nat->Prop),eX0 W D xa x.kids->eX0 W D xa (y::r):=fun W D h=>by rw [hyr] at h;exact h
  replace hkx:=key _ _ hkx;clear key;obtain⟨b,o,rfl,hb1,hr1,_⟩:=hkx.resolve_left Cu;obtain⟨yk,yw,yf,yt,ys⟩:=y;obtain⟨ka,cap,e0,e1,e2,e3,e4,e5⟩:=hr1;have H2:Hid (Rx E c D0 w _ none ((.mk yk yw yf yt ys,ka)::_) s F (some (.mk yk yw yf yt ys,s)) _):=hid (by
   refine Rx.have' ⟨H1.out.pd,H1.out.fr,H1.out.cw,H1.out.d0,H1.out.nd,H1.out.blk,H1.out.row,H1.out.hd,?_⟩ (t:=.mk yk yw yf yt ys) (ka:=ka) (show eX0 _ _ ka (Tr.mk yk yw yf yt ys).kids from e5);have:=H.out.eq;unfold XX0 at this;rw [Bc hh,hyr] at this;exact this)
  have i4:(0:Int) < (x.kids.length:Int):=by rw [hyr];simp
  have HB0:=hid (YX0 (w:=w.alloc (.cells #[.int .u8 (x.kind.toNat:Int),i8 x.word,i8 (x.fr:Int),i8 (x.to:Int),.slice (some (y8 b o)) x.kids.length xc] 60)));replace e0:=aA HB0.out e0;replace e1:=aA HB0.out e1;replace e2:=aA HB0.out e2;replace e3:=aA HB0.out e3;replace e4:=aA HB0.out e4;simp only [W0] at e0 e1 e2 e3 e4;clear HB0;clear H H1 hh hkx hyr hb1 hb e5 hk;simp only [bX0] at hr hp
  go_in
  go_wp2_with fail;have H3:=xX3 (t:=.mk yk yw yf yt ys) (ka:=ka) (cap:=cap) H2 (.inr (Bj ..));simp only [World.size_alloc] at H3;have H4:Hid (Rx E c D0 w [(w.heap.size+1,[(.mk yk yw yf yt ys,ka,cap)]),(w.heap.size,[(x,some (y8 b o),xc)])] none _ s F (some (.mk yk yw yf yt ys,s)) ((w.alloc (.cells #[.int .u8 (x.kind.toNat:Int),i8 x.word,i8 (x.fr:Int),i8 (x.to:Int),.slice (some (y8 b o)) x.kids.length xc] 60)).alloc (.cells #[.int .u8 (yk.toNat:Int),i8 yw,i8 (yf:Int),i8 (yt:Int),.slice ka ys.length cap] 60))):=H3;have K4:=fun (fn:Func) (hf:fn.results=#[.cell 4 60]) (a:Act) ht hd=>yX7 (fn:=fn) hf (a:=a) H4 ht hd (Bj ..)
  refine K4 _ ?_ _ ?_ ?_
  ·rfl
  ·rfl
  ·rfl
theorem aX8 {E:Ev}{c:Nat}{D0:Nat->Prop}{w0 w:World}{B:List (Nat × List TK)}{R:Option (Value × List TK)}{Hd:List (Tr × Option Addr)}{s:St}{F:Tr × St}{Q:Ending->World->Prop}{x:Tr}{xa:Option Addr}{xc:Nat}{K:Tr->St->O Tr} (H:Hid (Rx E c D0 w0 B R Hd s F (bnd (XX0 x s) K) w)) (hx:x.kids=[]∨(x,xa)∈Hd)
  (k:∀ t ka cap s' w',Hid (Rx E c D0 w0 B R ((t,ka)::Hd) s' F (K t s') w')->Q (.returned (tv t ka cap)) w'):Calls Tryz.prog 138 #[p8 c,tv x xa xc] w Q :=
 eX2 H (fun F' hF=>sX5 H.out.pd x xa xc (fun b hb=>H.out.dm hb) (hx.elim (fun e=>.inl e) (fun m=>H.out.hd _ m)) hF) (fun _ h=>h) k
end Rf
