import Derived.Test.YtjdllofmhglmiaaGreatDoorQAS
namespace Go.Proofs.YtjdllofmhglmiaaGreatDoor
open Lib(hid)
set_option linter.all false
set_option maxHeartbeats 40000000
set_option maxRecDepth 100000
section
open Go.RowKit
variable {E:Ev}{S:AB}{c n:Nat}{g:Bool}{w:World}
theorem TW {E:Env}{i:Int}{x:UInt8}{xs:List UInt8} (h:E.word i=x::xs):0<=i/\i.toNat < E.l.length:=by
 unfold Env.word at h;by_cases h0:i < 0
 ·exact zef
 ·rw [Bc h0] at h;refine⟨Cs,?_⟩;rcases Nat.lt_or_ge i.toNat E.l.length with h1|h1
  ·exact h1
  ·rw [As h1] at h;cases h
theorem bH (h:Rd E c n g w) (i:Int) :
  Calls Tryz.prog 187 #[p8 c,i8 i] w (xF E c n g (.tuple #[i8 (across E.toEnv i).1,.bool (across E.toEnv i).2]) w):=by
 have H0:=Sx.start (T:=bR false) h QL rfl;by_cases hw:E.word i=[91]
 ·have hd:(E.word i==[91])=true:=by rw [hw];rfl
  obtain⟨hi0,hi1⟩:=TW hw;obtain⟨m,rfl⟩:=Ad hi0;simp only [Ai] at hi1;have hl:E.pair.length=E.l.length:=h.prs.same;have hm:m < E.pair.length:=Cs
  obtain⟨b,o,hpa,hb,hc⟩:=h.prs.pairs m _ (O' hm);have hx:=h.prs.within _ (List.getElem_mem hm);have hg:E.pair.getD (m:Int).toNat 0=E.pair[m]:=by simp [List.getD,O' hm]
  have hsm:=h.lie.small;have hA:across E.toEnv (m:Int)=if E.pair[m]≠(m:Int)+1 then (E.pair[m]+1,true) else (0,false):=by
   unfold across;rw [hg];simp [hw]
  obtain⟨x1,x2⟩:=hx;generalize E.pair[m]=x at *;have b0:(0:Int)<=(m:Int):=Cs
  have b1:(m:Int) < (E.pair.length:Int):=Cs
  have b2:(m:Int)<=1099511627776:=Cs
  have hbc:b≠c:=Cs
  have HP:=hid (Az hpa (Az hb hc));by_cases he:x=(m:Int)+1
  ·have hd2:(x==(m:Int)+1)=true:=by simpa using he
   rw [Bc (by simpa using he)] at hA;have HA:=hid hA;clear hA he hw hg hl hm hi0 hi1 hpa hc h hb hsm
   go_in
   exact zbi
  ·have hd2:(x==(m:Int)+1)=false:=by simpa using he
   rw [Bb he] at hA;have HA:=hid hA;clear hA he hw hg hl hm hi0 hi1 hpa hc h hb hsm
   go_in
   exact zbi
 ·have hd:(E.word i==[91])=false:=by simpa using hw
  have hA:across E.toEnv i=(0,false):=by unfold across;rw [Bc (by simp [hw])]
  have HA:=hid hA;clear hA hw h
  go_in
  go_wp2_with fail;refine OA H0 _ ?_;intro w1 H1;clear H0;exact ze4
theorem WT (ws:List UInt8) (w:World):Calls Tryz.prog 117 #[.string ⟨ws.toArray⟩] w fun e w'=>e=.returned (i8 (DD ws:Int))/\w=w':=by
 by_cases h0:ws=[124,124]
 ·subst h0
  go_in
  exact zah
 have d0:(ws==[124,124])=false:=by simpa using h0
 by_cases h1:ws=[38,38]
 ·subst h1
  go_in
  exact zah
 have d1:(ws==[38,38])=false:=Ea
 by_cases h2:ws=[61,61]
 ·subst h2
  go_in
  exact zah
 have d2:(ws==[61,61])=false:=Gg
 by_cases h3:ws=[33,61]
 ·subst h3
  go_in
  exact zah
 have d3:(ws==[33,61])=false:=Iz
 by_cases h4:ws=[60]
 ·subst h4
  go_in
  exact zah
 have d4:(ws==[60])=false:=Jg
 by_cases h5:ws=[60,61]
 ·subst h5
  go_in
  exact zah
 have d5:(ws==[60,61])=false:=by simpa using h5
 by_cases h6:ws=[62]
 ·subst h6
  go_in
  exact zah
 have d6:(ws==[62])=false:=by simpa using h6
 by_cases h7:ws=[62,61]
 ·subst h7
  go_in
  exact zah
 have d7:(ws==[62,61])=false:=by simpa using h7
 by_cases h8:ws=[43]
 ·subst h8
  go_in
  exact zah
 have d8:(ws==[43])=false:=by simpa using h8
 by_cases h9:ws=[45]
 ·subst h9
  go_in
  exact zah
 have d9:(ws==[45])=false:=by simpa using h9
 by_cases h10:ws=[124]
 ·subst h10
  go_in
  exact zah
 have d10:(ws==[124])=false:=by simpa using h10
 by_cases h11:ws=[94]
 ·subst h11
  go_in
  exact zah
 have d11:(ws==[94])=false:=by simpa using h11
 by_cases h12:ws=[42]
 ·subst h12
  go_in
  exact zah
 have d12:(ws==[42])=false:=by simpa using h12
 by_cases h13:ws=[47]
 ·subst h13
  go_in
  exact zah
 have d13:(ws==[47])=false:=by simpa using h13
 by_cases h14:ws=[37]
 ·subst h14
  go_in
  exact zah
 have d14:(ws==[37])=false:=by simpa using h14
 by_cases h15:ws=[60,60]
 ·subst h15
  go_in
  exact zah
 have d15:(ws==[60,60])=false:=by simpa using h15
 by_cases h16:ws=[62,62]
 ·subst h16
  go_in
  exact zah
 have d16:(ws==[62,62])=false:=by simpa using h16
 by_cases h17:ws=[38]
 ·subst h17
  go_in
  exact zah
 have d17:(ws==[38])=false:=by simpa using h17
 by_cases h18:ws=[38,94]
 ·subst h18
  go_in
  exact zah
 have d18:(ws==[38,94])=false:=by simpa using h18
 have hv:DD ws=0:=by unfold DD;simp [h0,h1,h2,h3,h4,h5,h6,h7,h8,h9,h10,h11,h12,h13,h14,h15,h16,h17,h18]
 have HV:=hid hv;clear hv h0 h1 h2 h3 h4 h5 h6 h7 h8 h9 h10 h11 h12 h13 h14 h15 h16 h17 h18
 go_in
 exact zd8
theorem pP (ws:List UInt8) (w:World):Calls Tryz.prog 244 #[.string ⟨ws.toArray⟩] w fun e w'=>e=.returned (.bool (assigns ws))/\w=w':=by
 by_cases h0:ws=[61]
 ·subst h0
  go_in
  exact zah
 have d0:(ws==[61])=false:=by simpa using h0
 by_cases h1:ws=[58,61]
 ·subst h1
  go_in
  exact zah
 have d1:(ws==[58,61])=false:=Ea
 by_cases h2:ws=[43,61]
 ·subst h2
  go_in
  exact zah
 have d2:(ws==[43,61])=false:=Gg
 by_cases h3:ws=[45,61]
 ·subst h3
  go_in
  exact zah
 have d3:(ws==[45,61])=false:=Iz
 by_cases h4:ws=[42,61]
 ·subst h4
  go_in
  exact zah
 have d4:(ws==[42,61])=false:=Jg
 by_cases h5:ws=[47,61]
 ·subst h5
  go_in
  exact zah
 have d5:(ws==[47,61])=false:=by simpa using h5
 by_cases h6:ws=[37,61]
 ·subst h6
  go_in
  exact zah
 have d6:(ws==[37,61])=false:=by simpa using h6
 by_cases h7:ws=[38,61]
 ·subst h7
  go_in
  exact zah
 have d7:(ws==[38,61])=false:=by simpa using h7
 by_cases h8:ws=[124,61]
 ·subst h8
  go_in
  exact zah
 have d8:(ws==[124,61])=false:=by simpa using h8
 by_cases h9:ws=[94,61]
 ·subst h9
  go_in
  exact zah
 have d9:(ws==[94,61])=false:=by simpa using h9
 by_cases h10:ws=[60,60,61]
 ·subst h10
  go_in
  exact zah
 have d10:(ws==[60,60,61])=false:=by simpa using h10
 by_cases h11:ws=[62,62,61]
 ·subst h11
  go_in
  exact zah
 have d11:(ws==[62,62,61])=false:=by simpa using h11
 by_cases h12:ws=[38,94,61]
 ·subst h12
  go_in
  exact zah
 have d12:(ws==[38,94,61])=false:=by simpa using h12
 have hv:assigns ws=false:=by unfold assigns;simp [h0,h1,h2,h3,h4,h5,h6,h7,h8,h9,h10,h11,h12]
 have HV:=hid hv;clear hv h0 h1 h2 h3 h4 h5 h6 h7 h8 h9 h10 h11 h12
 go_in
 exact zd8
end
section
open Go.RowKit
variable {E:Ev}{S:AB}{c n:Nat}{g:Bool}{w:World}
set_option maxRecDepth 100000
set_option maxHeartbeats 40000000
theorem qQ (H:aB E S) (h:Rd E c n g w) (hr:FE E.toEnv S n g≠.out) :
  Calls Tryz.prog 116 #[p8 c] w (Ans E c g (FE E.toEnv S n g) w):=by
 have HD:=hid H;clear H;have H:=Sx.start h hr rfl
 conv at H=>arg 1;arg 8;unfold FE
 try simp only [bs,reduceCtorEq] at H
 have KO:Kd 36 36:=rfl;have K1:Kd 35 35:=rfl;clear h hr
 go_in
 exact dr
theorem ZO (h:Rd E c n g w) :
  Calls Tryz.prog 206 #[p8 c] w (xF E c n g (.bool (bare E.toEnv n)) w):=by
 have H:=Sx.start (T:=bR (bare E.toEnv n)) h QL rfl
 conv at H=>arg 1;arg 8;unfold bare
 try simp only [bs,reduceCtorEq] at H
 clear h
 go_in
 exact dr
theorem wR (H:aB E S) (h:Rd E c n g w) (hr:NE E.toEnv S n g≠.out) :
  Calls Tryz.prog 161 #[p8 c] w (Ans E c g (NE E.toEnv S n g) w):=by
 have HD:=hid H;clear H;have H:=Sx.start h hr rfl
 conv at H=>arg 1;arg 8;unfold NE after
 try simp only [bs,reduceCtorEq] at H
 have KO:Kd 15 15:=rfl;clear h hr
 go_in
 exact dr
theorem RP (h:Rd E c n g w) (hn:n < E.l.length) (hr:UD E.toEnv n≠.out) :
  Calls Tryz.prog 199 #[p8 c] w (Ans E c g (UD E.toEnv n) w):=by
 have L:=hid hn;clear hn;have H:=Sx.start h hr rfl
 conv at H=>arg 1;arg 8;unfold UD
 try simp only [bs,reduceCtorEq] at H
 have KO:Kd 57 57:=rfl;clear h hr
 go_in
 exact dr
end
section
open Go.RowKit
section
variable {E:Ev}{S:AB}{c n:Nat}{g:Bool}{w0 w1:World}{p:Nat}{k:UInt8}{wd:Int}{f t:Nat}{kv v:Value}{ps0:List Nat}{ts0:List Tr}{ps:List Nat}{ts:List Tr}{rs:List Nat}{us:List Tr}{T X:R Tr}{w:World}{Q:Ending->World->Prop}
theorem Sx.startN (h:Rd E c n g w) (hn:Nd E c w0 p k wd f t kv ps0 ts0 ps ts w) (hr:T≠.out) (hX:T=X):Hid (Sx E c n g w0 (Nd E c w0 p k wd f t kv ps0 ts0 ps ts) T X w):=⟨h,hn.fr,hn.cw,hn,Nd.later,hX,hr⟩
theorem yC {P:World->Prop} (h:Hid (Sx E c n g w0 P T X w)):Hid (Sx E c n g w0 P T X w.drew):=h.out.below (N' _ _).drew
theorem FF {P:World->Prop} (h:Hid (Sx E c n g w0 P T X w)) (o:Obj):Hid (Sx E c n g w0 P T X (w.alloc o)):=h.out.below ((N' _ _).alloc (C' _) o)
theorem IJ {P:World->Prop}{x:UInt8}{ws:List UInt8} (h:Hid (Sx E c n g w0 P T X w)) (h1:Hid (E.is n (x::ws)=true)) (hQ:∀ n' w',n'=n+1->Hid (Sx E c n' g w0 P T X w')->Q (.returned (.tuple #[])) w') :
  Calls Tryz.prog 74 #[p8 c,.string ⟨(x::ws).toArray⟩] w Q:=by
 refine (NH h.out.rd x ws).mono ?_;have hw:want E.toEnv (x::ws) n=.ok () (n+1):=by unfold want;rw [Bb h1.out]
 rw [hw];rintro e w' ⟨rfl,q1,q2⟩;exact hQ _ w' rfl (h.out.step q2 q1 rfl)
theorem jP (h:Hid (Sx E c n g w0 (Rw E c w1 v ps ts [] []) T X w)) (k:UInt8) (wd:Int) (f t:Nat) :
  Hid (Sx E c n g w0 (Rw E c w1 OE [] [] [w.heap.size] [.mk k wd f t ts]) T X (w.alloc (.cells #[.int .u8 (k.toNat:Int),i8 wd,i8 (f:Int),i8 (t:Int),v] 54))):=by
 have hh:=h.out;have hB:=(N' w.heap.size w).alloc (C' _) (Obj.cells #[.int .u8 (k.toNat:Int),i8 wd,i8 (f:Int),i8 (t:Int),v] 54);have hn:=B8 w (Obj.cells #[.int .u8 (k.toNat:Int),i8 wd,i8 (f:Int),i8 (t:Int),v] 54);have hz:=hh.ex.fr.size;obtain⟨ka,cap,hv,hP,hN⟩:=hh.ex.row;have hlen:=fA.len hN;subst hv;refine (hh.below hB).with ⟨hh.ex.fr.trans (lA c hB),hh.ex.cw,Av _ _ _ _,trivial,⟨⟨⟨hz,Cu,Dl⟩,ka,cap,ps,by rw [<- hlen];exact hn,?_,?_⟩,trivial⟩,.inr Dl⟩ Rw.later
 ·exact nJ.kept hP (fun b hb=>hB.block b hb.2) (fun b hb=>⟨hb.1,by have:=hb.2;simp;omega,Dl⟩)
 ·exact fA.kept (fun b hb=>hB.block b hb.2) (fun b hb=>⟨hb.1,by have:=hb.2;simp;omega,Dl⟩) _ _ hN
structure Pu (E:Ev) (c:Nat) (w1:World) (p:Nat) (k:UInt8) (wd:Int) (f t:Nat) (v:Value) (ps:List Nat) (ts:List Tr) (w:World):Prop where
 fr:Fr [c] w1 w
 cw:c < w1.heap.size
 blk:∃ kv,YC w p k wd f t kv
 own:w.ownsRow w1.heap.size 44 1 v ps.length (GB ps)
 low:w1.heap.size<=p
 sep:v.ownBlock≠some p
 old:fA w (ndD w1 p v w) ps ts
 z:E.zo=none∨(E.zb≠p/\v.ownBlock≠some E.zb)
theorem Pu.later (w w':World) (h:Pu E c w1 p k wd f t v ps ts w) (hf:Fr [c] w w'):Pu E c w1 p k wd f t v ps ts w':=by
 have hc:=h.cw;have hl:=h.low;have hk:∀ b,ndD w1 p v w b->w'.heap[b]?=w.heap[b]?:=fun b hb=>hf.block b hb.2.1 Hf
 obtain⟨kv,hb⟩:=h.blk;refine⟨h.fr.trans hf,h.cw,⟨kv,hb.later hf Cv⟩,pD h.own hf (fun b hb e=>?_),h.low,h.sep,fA.kept hk (ndD.later hf.size) _ _ h.old,h.z⟩;simp at hb;subst hb;have:=(h.own.lt _ e).1;omega
theorem Pu.set (h:Pu E c w1 p k wd f t v ps ts w):Nd E c w1 p k wd f t v ps ts [] [] (w.setCell (y8 p 4) v):=by
 obtain⟨kv,hb⟩:=h.blk;have hf:Fr [p] w (w.setCell (y8 p 4) v):=NA p 4 w v;have hk:∀ b,ndD w1 p v w b->(w.setCell (y8 p 4) v).heap[b]?=w.heap[b]?:=fun b hb=>hf.block b hb.2.1 Ju
 exact⟨h.fr.trans' hf (fun i hi=>.inr (by have:=h.low;simp at hi;omega)),h.cw,⟨hb.kids v,pD h.own hf (fun b hb=>by simp at hb;subst hb;exact h.sep),h.low,h.sep⟩,fA.kept hk (ndD.later hf.size) _ _ h.old,trivial,h.z⟩
theorem VL (h:Hid (Sx E c n g w0 (Pu E c w1 p k wd f t v ps ts) T X w)) (h01:w0.heap.size<=w1.heap.size:=by exact C' _):Hid (Sx E c n g w0 (Nd E c w1 p k wd f t v ps ts [] []) T X (w.setCell (y8 p 4) v)):=by
 have hh:=h.out;have h1:=hh.ex.cw;have h2:=hh.ex.low;have hf:Fr [p] w (w.setCell (y8 p 4) v):=NA p 4 w v;exact⟨hh.rd.later hf (fun x hx=>Lf) (hh.ex.z.imp id (fun h m=>h.1 Gq)),hh.fr.trans' hf (fun i hi=>.inr F4),hh.cw,hh.ex.set,Nd.later,hh.eq,hh.ne⟩
theorem DU {q:Nat}{u:Tr}{v':Value}{w':World} (h:Hid (Sx E c n g w0 (Nd E c w1 p k wd f t kv ps0 ts0 [q] [u]) T X w)) (h01:w0.heap.size<=w1.heap.size)
  (hown:w'.ownsRow w1.heap.size 44 1 v' (ps0.length+1) (GB ps0++GB [q])) (hgrow:(w.alloc (.cells #[p8 q] 44)).grownBy w' kv.ownBlock)
  (hat:v'.ownBlock=kv.ownBlock∨v'.ownBlock=some (w.alloc (.cells #[p8 q] 44)).heap.size):Hid (Sx E c n g w0 (Pu E c w1 p k wd f t v' (ps0++[q]) (ts0++[u])) T X w'):=by
 have hh:=h.out;have hz:=hh.ex.fr.size;have hcw:=hh.ex.cw;have hl:=hh.ex.opn.low;have hpl:=hh.ex.opn.blk.lt;have hB:=(N' w.heap.size w).alloc (C' _) (Obj.cells #[p8 q] 44);have ha5:(w.alloc (Obj.cells #[p8 q] 44)).heap.size=w.heap.size+1:=Cu
 have hg5:=hgrow.size;have hX:Fr (YD kv) (w.alloc (Obj.cells #[p8 q] 44)) w':=Fr.grown hgrow (fun k hk=>Gl);have hXm:∀ i∈YD kv,w1.heap.size<=i/\i≠p/\kv.ownBlock=some i:=by
  intro i hi;unfold YD at hi;split at hi
  ·rename_i b2 hb2;simp at hi;subst hi;exact⟨(hh.ex.opn.row.lt _ hb2).1,fun e=>hh.ex.opn.sep (e ▸ hb2),hb2⟩
  ·simp at hi
 have hF1:=(hh.ex.fr.trans (lA c hB)).trans' hX (fun i hi=>.inr (hXm i hi).1);have hF0:=(hh.fr.trans (lA c hB)).trans' hX (fun i hi=>.inr (by have:=(hXm i hi).1;omega));have hvp:v'.ownBlock≠some p:=by
  rcases hat with e|e
  ·rw [e];exact hh.ex.opn.sep
  ·rw [e];intro x;cases x;omega
 have hk:∀ b,ndD w1 p kv w b->w'.heap[b]?=w.heap[b]?:=fun b hb=>by
  rw [hgrow.block b Fc (fun e=>hb.2.2.2 e.symm)];exact hB.block b hb.2.1
 have hd:∀ b,ndD w1 p kv w b->ndD w1 p v' w' b:=fun b hb=>by
  refine⟨hb.1,Fc,hb.2.2.1,fun e=>?_⟩;rcases hat with x|x
  ·exact hb.2.2.2 (x ▸ e)
  ·rw [x] at e;cases e;have:=hb.2.1;omega
 refine⟨(hh.rd.below hB).later hX (fun i hi=>by have:=(hXm i hi).1;omega) (hh.ex.z.imp id (fun h m=>h.2 (hXm _ m).2.2)),hF0,hh.cw,⟨hF1,hcw,⟨kv,(hh.ex.opn.blk.later (lA c hB) Cv).later hX (fun m=>(hXm p m).2.1 rfl)⟩,?_,hl,hvp,?_,?_⟩,Pu.later,hh.eq,hh.ne⟩
 ·rw [V',show GB (ps0++[q])=GB ps0++GB [q] from by simp [GB]];exact hown
 ·exact fA.append (fA.kept hk hd _ _ hh.ex.old) (fA.kept hk hd _ _ hh.ex.kids)
 ·rcases hh.ex.z with z|z
  ·exact .inl z
  ·rcases hat with x|x
   ·exact .inr ⟨z.1,by rw [x];exact z.2⟩
   ·exact hh.rd.zlt.imp id (fun h=>⟨z.1,fun e=>by rw [x] at e;have:=Option.some.inj e;omega⟩)
theorem nY {ops:Array Oper}{rest:List Oper}{o:Oper}{a:Act}{Q:Exit->Act->World->Prop} (hgd:o.guard=none) (s x:Operand)
  (ho:o.op=.call { callee:=.builtin .append,args:=#[s,x],argTypes:=#[52,52] }) {q:Nat}{u:Tr}
  (h:Hid (Sx E c n g w0 (Nd E c w1 p k wd f t kv ps0 ts0 [q] [u]) T X w)) (h01:w0.heap.size<=w1.heap.size) (hs:a.eval s=kv) (hx:a.eval x=.slice (some (y8 w.heap.size 0)) 1 1) (hsm:ps0.length<=1099511627776)
  (hQ:∀ v' w',Hid (Sx E c n g w0 (Pu E c w1 p k wd f t v' (ps0++[q]) (ts0++[u])) T X w')->wpList Tryz.prog ops Q rest (a.put o.dst v') w') :
  wpList Tryz.prog ops Q (o::rest) a (w.alloc (.cells #[p8 q] 44)):=by
 obtain⟨iP,hiP,hz0,hz1,hz2⟩:=info_parts Tryz.infoP;have hh:=h.out;have hz:=hh.ex.fr.size;have ha5:(w.alloc (Obj.cells #[p8 q] 44)).heap.size=w.heap.size+1:=Cu
 refine wpList_append_own_at _ hgd s x 52 ho w1.heap.size 44 iP _ 1 8 Tryz.underlying52 hiP hz0 hz1 hz2 rfl Ct kv ps0.length (GB ps0) hs (hh.ex.opn.row.alloc _) (y8 w.heap.size 0) 1 1 (GB [q]) hx rfl
  (At (cs:=#[p8 q]) (t:=44) (fr:=(0,0)) (B8 w _)) (zG _) Da Cs Cs ?_
 intro v' w' hown hgrow _ hat;exact hQ v' w' (DU h h01 hown hgrow hat)
end
section
variable {E:Ev}{S:AB}{c n k:Nat}{g:Bool}{w0:World}{p:Nat}{kd:UInt8}{wd:Int}{f t:Nat}{kv:Value}{ps0:List Nat}{ts0:List Tr}{w:World}
theorem ZE (H:aB E S) (h:Rd E c n g w) (hn:Nd E c w0 p kd wd f t kv ps0 ts0 [] [] w) (hps:ps0.length<=1000) (hr:S.t .typ n g≠.out) :
  Calls Tryz.prog 115 #[p8 c,p8 p] w (Ans E c g ((S.t .typ n g).andThen fun u m=>.ok (.mk kd wd f m (ts0++[u])) m) w0):=by
 have HD:=hid H;clear H;have hr2:((S.t .typ n g).andThen fun u m=>(R.ok (.mk kd wd f m (ts0++[u])) m:R Tr))≠.out:=by
  cases hc:S.t .typ n g with
  | out=>exact absurd hc hr
  | bad k=>simp [R.andThen]
  | ok a b=>simp [R.andThen]
 have H0:=Sx.startN h hn hr2 rfl;clear h hn hr hr2
 go_in
 go_wp2_with fail;refine jA (F:=.typ) H0 HD Ct ⟨rfl,rfl⟩ (fun _ _ h=>⟨rfl,h⟩) ?_;intro q u n2 w2 H2;clear H0;go_wp2_with fail;refine (eA H2 Cv).mono ?_;rintro e wz ⟨rfl,HA⟩;clear H2;go_wp2_with fail;go_ret;exact HA.out
end
end
section
open Go.RowKit
variable {E:Ev}{S:AB}{c n:Nat}{g:Bool}{w:World}
set_option maxRecDepth 100000
set_option maxHeartbeats 40000000
section
def XO (E:Env) (S:AB) (n:Nat) (g:Bool):R Tr :=
 if E.is (n+1) [93] then .bad (n+1)
 else (rows E S [91] [44] [93] .typ n g).andThen fun p n3=>(want E [93] n3).andThen fun _ n4=>.ok (xC 11 p.1 n3) n4
theorem dM {E:Env}{S:AB}{n:Nat}{g:Bool}{K:Tr->Nat->R Tr}:(XO E S n g).andThen K =
  if E.is (n+1) [93] then .bad (n+1) else (rows E S [91] [44] [93] .typ n g).andThen fun p n3=>(want E [93] n3).andThen fun _ n4=>K (xC 11 p.1 n3) n4:=by
 unfold XO;simp only [oA,zA,PA,mA]
variable {k:Nat}
theorem WP (H:∀ j,j<=k->aB E (spec E.toEnv j)) (hkk:k<=1099511627776) (h:Rd E c n g w) (hr:XD E.toEnv (spec E.toEnv k) n g≠.out) :
  Calls Tryz.prog 126 #[p8 c] w (Ans E c g (XD E.toEnv (spec E.toEnv k) n g) w):=by
 have HA:=hid H;have HD:=hid (H k (C' _));clear H;have H:=Sx.start h hr rfl
 conv at H=>arg 1;arg 8;unfold XD
 try simp only [bs,reduceCtorEq] at H
 have KO:Kd 14 14:=rfl;clear h hr
 go_in
 exact dr
theorem UH (H:∀ j,j<=k->aB E (spec E.toEnv j)) (hkk:k<=1099511627776) (h:Rd E c n g w) (hr:XO E.toEnv (spec E.toEnv k) n g≠.out) :
  Calls Tryz.prog 149 #[p8 c,.func (.func (xD .typ)) #[p8 c] #[]] w (Ans E c g (XO E.toEnv (spec E.toEnv k) n g) w):=by
 have HA:=hid H;have HD:=hid (H k (C' _));clear H;have H:=Sx.start h hr rfl
 conv at H=>arg 1;arg 8;unfold XO
 try simp only [bs,reduceCtorEq] at H
 have KL:Kd 11 11:=rfl;clear h hr
 go_in
 exact dr
theorem sM (H:∀ j,j<=k->aB E (spec E.toEnv j)) (hkk:k<=1099511627776) (h:Rd E c n g w) (hr:nC E.toEnv (spec E.toEnv k) n g≠.out) :
  Calls Tryz.prog 109 #[p8 c] w (Ans E c g (nC E.toEnv (spec E.toEnv k) n g) w):=by
 have HA:=hid H;have HD:=hid (H k (C' _));clear H;have H0:=Sx.start h hr rfl
 conv at H0=>arg 1;arg 8;unfold nC
 try simp only [reduceCtorEq,bs] at H0
 clear h hr
 go_in
 go_wp2_with fail;refine yB H0 30 ?_;intro p w1 H2;clear H0;have H3:=gX H2;go_wp2_with fail;refine RK H3 (fun _ _ h=>⟨rfl,h⟩) ?_;intro q6 t7 n5 w4 H8;clear H3;go_wp2_with fail;cases h9:E.is n5 [46] with
 | true =>
  have d10:(E.word (n5:Nat)==[46])=true:=h9;simp only [h9,reduceCtorEq,bs] at H8;have HLTh9:=hid (gA h9);have HYh9:=hid h9;clear h9;refine cA H8 ?_;intro w11 H12;clear H8;obtain⟨_,_,_,hat15,_⟩:=H12.out.rd.cells;have hsm16:((n5:Nat):Int)<=1099511627776:=by have:=H12.out.rd.at_;have:=H12.out.rd.lie.small;omega
  have hfz14:=H12.out.rd.free 3;have H13:=ZA H12 HLTh9;clear H12;obtain⟨n17,hm⟩:∃ m,m=n5+1:=⟨_,rfl⟩;simp only [<- hm] at H13;have HMn17:=hid hm;clear hm;go_wp2_with fail;generalize (w11.setCell (y8 c 3) (i8 (((n5:Nat):Int)+1)))=w18 at *;clear hat15 hsm16 hfz14
  try simp only [show (((n5:Nat):Int)+1)=((n17:Nat):Int) from by have:=HMn17.out;omega] at H13
  refine RK H13 (fun _ _ h=>⟨rfl,h⟩) ?_;intro q21 t22 n20 w19 H23;clear H13;obtain⟨_,_,hf25,_,_⟩:=(Nd.later _ _ H2.out.ex H23.out.ex.fr).opn.blk.cells;obtain⟨_,_,_,hat26,_⟩:=H23.out.rd.cells;have ha27:=fun o=>aA ((N' w19.heap.size w19).alloc (C' _) o) hf25
  have ha28:=fun o=>aA ((N' w19.heap.size w19).alloc (C' _) o) hat26
  have H29:=pL H23 Cu;clear H23;have H30:=yC (jP H29 29 (-1) n n20);clear H29;simp only [World.size_alloc,Ar,Ao] at H30;go_wp2_with fail;go_region
  all_goals (clear hf25 hat26 ha27 ha28;go_wp2_with fail)
  cases h32:E.is n20 [91] with
  | true =>
   have d33:(E.word (n20:Nat)==[91])=true:=h32;simp only [h32,reduceCtorEq,bs] at H30;have HLTh32:=hid (gA h32);have HYh32:=hid h32;clear h32;refine cA H30 ?_;intro w34 H35;clear H30;have H36:=PN H2 H35;clear H35;have H37:=Sx.re H36 (dM (K:=fun u n4=>.ok (.mk 30 (-1) n n4 [_,u]) n4)).symm;clear H36;go_wp2_with fail;refine TB H37 (UH HA.out hkk H37.out.rd) (fun _ _ h=>⟨rfl,h⟩) ?_;intro q40 t41 n39 w38 H42;clear H37;go_wp2_with fail;refine (eA H42 Cu).mono ?_;rintro e wz ⟨rfl,HA⟩;clear H42;exact zcn
  | false =>
   have d33:(E.word (n20:Nat)==[91])=false:=h32;simp only [h32,reduceCtorEq,bs] at H30;clear h32;refine cA H30 ?_;intro w43 H44;clear H30;go_wp2_with fail;go_ret;exact (RE (rs:=[]) (us:=[]) H44 H2.out.fr.size)
 | false =>
  have d10:(E.word (n5:Nat)==[46])=false:=h9;simp only [h9,reduceCtorEq,bs] at H8;clear h9;refine cA H8 ?_;intro w45 H46;clear H8;go_wp2_with fail;cases h47:E.is n5 [91] with
  | true =>
   have d48:(E.word (n5:Nat)==[91])=true:=h47;simp only [h47,reduceCtorEq,bs] at H46;have HLTh47:=hid (gA h47);have HYh47:=hid h47;clear h47;refine cA H46 ?_;intro w49 H50;clear H46;have H51:=PN H2 H50;clear H50;have H52:=Sx.re H51 (dM (K:=fun u n4=>.ok (.mk 30 (-1) n n4 [_,u]) n4)).symm;clear H51;go_wp2_with fail;refine TB H52 (UH HA.out hkk H52.out.rd) (fun _ _ h=>⟨rfl,h⟩) ?_;intro q55 t56 n54 w53 H57;clear H52;go_wp2_with fail;refine (eA H57 Cu).mono ?_;rintro e wz ⟨rfl,HA⟩;clear H57;exact zcn
  | false =>
   have d48:(E.word (n5:Nat)==[91])=false:=h47;simp only [h47,reduceCtorEq,bs] at H46;clear h47;refine cA H46 ?_;intro w58 H59;clear H46;go_wp2_with fail;go_ret;exact (RE H59 H2.out.fr.size)
end
end
