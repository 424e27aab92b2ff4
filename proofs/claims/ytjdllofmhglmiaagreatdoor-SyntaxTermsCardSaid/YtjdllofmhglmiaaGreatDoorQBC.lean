import Derived.Test.YtjdllofmhglmiaaGreatDoorQBB
namespace Go.Proofs.YtjdllofmhglmiaaGreatDoor
open Lib(hid)
set_option linter.all false
set_option maxHeartbeats 40000000
set_option maxRecDepth 100000
namespace Rf
open Go.RowKit
theorem SX4 {fn:Func}{i j k:Nat} (hf:fn.results=#[.cell i 60,.cell j 60,.tmp k]) {R:Ending->World->Prop}{a:Act}{W:World}{p q:Nat}{t u:Tr}{ka kb:Option Addr}{ca cb:Nat}{v:Value}
  (h1:a.tmps.getD i undef=p8 p) (h2:a.tmps.getD j undef=p8 q) (h3:a.tmps.getD k undef=v) (hd:a.defers=[])
  (c1:W.heap[p]?=some (.cells (lX0 [(t,ka,ca)]).toArray 60 (0,0))) (c2:W.heap[q]?=some (.cells (lX0 [(u,kb,cb)]).toArray 60 (0,0))) (hR:R (.returned (.tuple #[tv t ka ca,tv u kb cb,v])) W):bodyPost Tryz.prog fn R .ret a W:=by
 refine Ca (v:=.tuple #[tv t ka ca,tv u kb cb,v]) ?_ hd hR;have e1:=run_loadVar_row (P:=Tryz.prog) W p _ 60 (cel (t,ka,ca)).toArray (0,0) _ (by simpa [lX0] using c1) Tryz.underlying60 rfl Tryz.infoT5;have e2:=run_loadVar_row (P:=Tryz.prog) W q _ 60 (cel (u,kb,cb)).toArray (0,0) _ (by simpa [lX0] using c2) Tryz.underlying60 rfl Tryz.infoT5;have g1:a.tmps[i]?.getD undef=p8 p:=Ea
 have g2:a.tmps[j]?.getD undef=p8 q:=Gg
 have g3:a.tmps[k]?.getD undef=v:=Iz
 unfold results;rw [hf];simp [g1,g2,g3,asAddr,e1,e2,cel]
theorem nk3 {k:UInt8} (h:¬ k=53):((k.toNat:Int) != 53)=true:=by
 have:=kbf (k:=k) (n:=53) Ct h;rw [bne,show ((k.toNat:Int)==53)=false from this];rfl
theorem pX9 {k:UInt8} (h:k=53):((k.toNat:Int) != 53)=false:=by rw [h];rfl
abbrev zO:Obj:=.cells #[.int .u8 0,i8 0,i8 0,i8 0,.slice none 0 0] 60
theorem al3 (w:World) (o:Obj):(((w.alloc o).alloc zO).alloc zO).heap[w.heap.size+1]?=some (.cells (lX0 [(zT,none,0)]).toArray 60 (0,0))/\(((w.alloc o).alloc zO).alloc zO).heap[w.heap.size+1+1]?=some (.cells (lX0 [(zT,none,0)]).toArray 60 (0,0)) /\
  (((w.alloc o).alloc zO).alloc zO).heap[w.heap.size]?=some o/\Below w.heap.size w (((w.alloc o).alloc zO).alloc zO):=by
 have b1:=(N' w.heap.size w).alloc (C' _) o;have b2:=b1.alloc b1.size zO;have b3:=b2.alloc b2.size zO;have s1:(w.alloc o).heap.size=w.heap.size+1:=Cu
 have s2:((w.alloc o).alloc zO).heap.size=w.heap.size+1+1:=Cu
 refine⟨?_,?_,?_,b3⟩
 ·have h:=B8 (w.alloc o) zO;rw [s1] at h;exact (((N' _ _).alloc (C' _) zO).block _ (by rw [s2];omega)).trans h
 ·have h:=B8 ((w.alloc o).alloc zO) zO;rw [s2] at h;exact h
 ·have h:=B8 w o;exact ((((N' (w.alloc o).heap.size _).alloc (C' _) zO).alloc (by rw [s2,s1];omega) zO).block _ (by rw [s1];omega)).trans h
def eX1 (D:Nat->Prop) (w:World) (t y:Tr) (ok:Bool) (e:Ending) (w':World):Prop :=
 ∃ ka ca kb cb,e=.returned (.tuple #[tv t ka ca,tv y kb cb,.bool ok])/\Below w.heap.size w w'/\eX0 w D ka t.kids/\eX0 w D kb y.kids
theorem SX5 {D:Nat->Prop}{w w1:World}{p:Nat}{fn:Func} (hf:fn.results=#[.cell 2 60,.cell 3 60,.tmp 4]:=by rfl) {a:Act}{t u:Tr}{ka kb:Option Addr}{ca cb:Nat}{ok:Bool}{v0 v1 v2 v3 v4 u0 u1 u2 u3 u4:Value} (hp:p=w.heap.size)
  (h1:w1.heap[p+1]?=some (.cells (lX0 [(zT,none,0)]).toArray 60 (0,0))) (h2:w1.heap[p+1+1]?=some (.cells (lX0 [(zT,none,0)]).toArray 60 (0,0))) (hB:Below p w w1) (k1:eX0 w D ka t.kids) (k2:eX0 w D kb u.kids)
  (e1:cel (t,ka,ca)=[v0,v1,v2,v3,v4]:=by rfl) (e2:cel (u,kb,cb)=[u0,u1,u2,u3,u4]:=by rfl) (t1:a.tmps.getD 2 undef=.pointer (some ⟨p+1,0,none⟩):=by rfl) (t2:a.tmps.getD 3 undef=.pointer (some ⟨p+1+1,0,none⟩):=by rfl) (t3:a.tmps.getD 4 undef=.bool ok:=by rfl) (hd:a.defers=[]:=by rfl) :
  bodyPost Tryz.prog fn (eX1 D w t u ok) .ret a ((((((((((w1.setCell ⟨p+1,0,none⟩ v0).setCell ⟨p+1,1,none⟩ v1).setCell ⟨p+1,2,none⟩ v2).setCell ⟨p+1,3,none⟩ v3).setCell ⟨p+1,4,none⟩ v4).setCell ⟨p+1+1,0,none⟩ u0).setCell ⟨p+1+1,1,none⟩ u1).setCell ⟨p+1+1,2,none⟩ u2).setCell ⟨p+1+1,3,none⟩ u3).setCell ⟨p+1+1,4,none⟩ u4).drew:=by
 have f1:=ZX0 (v0:=v0) (v1:=v1) (v2:=v2) (v3:=v3) (v4:=v4) h1 Im;have r1:=PX0 (w:=w1) (p:=p+1) (v0:=v0) (v1:=v1) (v2:=v2) (v3:=v3) (v4:=v4);have b1:Below w.heap.size w _:=FX0 (r:=p+1) (v0:=v0) (v1:=v1) (v2:=v2) (v3:=v3) (v4:=v4) (hp ▸ hB) Cs;generalize ((((w1.setCell ⟨p+1,0,none⟩ v0).setCell ⟨p+1,1,none⟩ v1).setCell ⟨p+1,2,none⟩ v2).setCell ⟨p+1,3,none⟩ v3).setCell ⟨p+1,4,none⟩ v4=w2 at *;have g2:=r1.at_ (k:=p+1+1) Cu h2;have f2:=ZX0 (v0:=u0) (v1:=u1) (v2:=u2) (v3:=u3) (v4:=u4) g2 Im;have r2:=PX0 (w:=w2) (p:=p+1+1) (v0:=u0) (v1:=u1) (v2:=u2) (v3:=u3) (v4:=u4);have b2:Below w.heap.size w _:=FX0 (r:=p+1+1) (v0:=u0) (v1:=u1) (v2:=u2) (v3:=u3) (v4:=u4) b1 Cs;have f1':=r2.at_ (k:=p+1) Cu f1;generalize ((((w2.setCell ⟨p+1+1,0,none⟩ u0).setCell ⟨p+1+1,1,none⟩ u1).setCell ⟨p+1+1,2,none⟩ u2).setCell ⟨p+1+1,3,none⟩ u3).setCell ⟨p+1+1,4,none⟩ u4=w3 at *;refine SX4 (t:=t) (u:=u) (ka:=ka) (kb:=kb) (ca:=ca) (cb:=cb) hf t1 t2 t3 hd ?_ ?_ ⟨ka,ca,kb,cb,rfl,b2.drew,k1,k2⟩
 ·have:w3.drew.heap[p+1]?=w3.heap[p+1]?:=rfl;rw [this,f1'];simp [lX0,e1]
 ·have:w3.drew.heap[p+1+1]?=w3.heap[p+1+1]?:=rfl;rw [this,f2];simp [lX0,e2]
theorem PX4 {w:World}{D:Nat->Prop} (x:Tr) (xa:Option Addr) (xc:Nat) (h0:¬ x.kind=50) (h3:¬ x.kind=53) :
  Calls Tryz.prog 139 #[tv x xa xc] w (eX1 D w zT zT false):=by
 have d0:((x.kind.toNat:Int)==50)=false:=kbf (k:=x.kind) (n:=50) Ct h0;have d3:((x.kind.toNat:Int) != 53)=true:=nk3 h3;clear h0 h3
 go_in
 go_wp2_with fail;have A:=al3 w (.cells #[.int .u8 (x.kind.toNat:Int),i8 x.word,i8 (x.fr:Int),i8 (x.to:Int),.slice xa x.kids.length xc] 60);exact SX4 (t:=zT) (u:=zT) (ka:=none) (kb:=none) (ca:=0) (cb:=0) rfl rfl rfl rfl rfl A.1 A.2.1 ⟨none,0,none,0,rfl,A.2.2.2,.inl rfl,.inl rfl⟩
theorem vX8 {w:World}{D:Nat->Prop} (x:Tr) (xa:Option Addr) (xc:Nat) (h0:x.kind=50) {a:Tr}{r:List Tr} (hk:x.kids=a::r) (hx:eX0 w D xa x.kids) (hD:∀ b,D b->b < w.heap.size) (ha:¬ a.kind=33) :
  Calls Tryz.prog 139 #[tv x xa xc] w (eX1 D w zT zT false):=by
 have d0:((x.kind.toNat:Int)==50)=true:=kbt (k:=x.kind) (n:=50) Ct h0;have d3:((x.kind.toNat:Int) != 53)=true:=nk3 G7;have d1:((a.kind.toNat:Int)==33)=false:=kbf (k:=a.kind) (n:=33) Ct ha;have i4:(0:Int) < (x.kids.length:Int):=Ew
 rw [hk] at hx;obtain⟨b,o,ka,cap,rfl,hb,e0,_⟩:=sX2 hx;have hbl:=hD b hb;have hb1:b < w.heap.size+1:=Cs
 have hb2:b < w.heap.size+1+1:=Cs
 clear h0 ha hx hk hD hb
 go_in
 go_wp2_with fail;have A:=al3 w (.cells #[.int .u8 (x.kind.toNat:Int),i8 x.word,i8 (x.fr:Int),i8 (x.to:Int),.slice (some ⟨b,o,none⟩) x.kids.length xc] 60);exact SX4 (t:=zT) (u:=zT) (ka:=none) (kb:=none) (ca:=0) (cb:=0) rfl rfl rfl rfl rfl A.1 A.2.1 ⟨none,0,none,0,rfl,A.2.2.2,.inl rfl,.inl rfl⟩
theorem ZX7 {w:World}{D:Nat->Prop} (x:Tr) (xa:Option Addr) (xc:Nat) (h0:x.kind=50) {a y:Tr}{r q:List Tr} (hk:x.kids=a::r) (hy:a.kids=y::q) (hx:eX0 w D xa x.kids) (hD:∀ b,D b->b < w.heap.size) (ha:a.kind=33) :
  Calls Tryz.prog 139 #[tv x xa xc] w (eX1 D w (.mk 0 (-1) x.fr x.fr []) y true):=by
 have d0:((x.kind.toNat:Int)==50)=true:=kbt (k:=x.kind) (n:=50) Ct h0;have d1:((a.kind.toNat:Int)==33)=true:=kbt (k:=a.kind) (n:=33) Ct ha;have i4:(0:Int) < (x.kids.length:Int):=Ew
 have i5:(0:Int) < (a.kids.length:Int):=G4
 rw [hk] at hx;obtain⟨b,o,ka,cap,rfl,hb,e0,_,_,_,e4,e5,_⟩:=sX2 hx;rw [hy] at e5;obtain⟨b2,o2,kb,cb,rfl,hb',f0,f1,f2,f3,f4,f5,_⟩:=sX2 e5;have hbl:=hD b hb;have hb1:b < w.heap.size+1:=Cs
 have hb2:b < w.heap.size+1+1:=Cs
 have hcl:=hD b2 hb';have A:=al3 w (.cells #[.int .u8 (x.kind.toNat:Int),i8 x.word,i8 (x.fr:Int),i8 (x.to:Int),.slice (some ⟨b,o,none⟩) x.kids.length xc] 60);have HF:=hid (Az A (Az (aA A.2.2.2 e4) (Az (aA A.2.2.2 f0) (Az (aA A.2.2.2 f1) (Az (aA A.2.2.2 f2) (Az (aA A.2.2.2 f3) (aA A.2.2.2 f4)))))));have HE:=hid f5;clear h0 ha hx hk hD hb A e4 e5 f0 f1 f2 f3 f4 f5 hb' hy
 go_in
 go_wp2_with fail;generalize (((w.alloc (.cells #[.int .u8 (x.kind.toNat:Int),i8 x.word,i8 (x.fr:Int),i8 (x.to:Int),.slice (some ⟨b,o,none⟩) x.kids.length xc] 60)).alloc zO).alloc zO)=w1 at *;obtain⟨⟨h1,h2,h3,h4⟩,e4,f0,f1,f2,f3,f4⟩:=HF.out;have v1:=pX0 h1;have v2:=pX0 h2;have v3:=pX0 h3;have HH:=hid (Az h1 (Az h2 h4));clear h1 h2 h3 h4 HF;obtain⟨p,hp⟩:∃ p,p=w.heap.size:=⟨_,rfl⟩;rw [<- hp] at v1 v2 v3 HH hbl hb1 hb2 hcl ⊢;have HP:=hid hp;clear hp;simp only [bX0] at v1 v2 v3
 try simp only [y8,i8,p8] at *
 go_region;go_wp2_with fail;exact SX5 (t:=.mk 0 (-1) x.fr x.fr []) (u:=y) (ka:=none) (ca:=0) (hp:=HP.out) (h1:=HH.out.1) (h2:=HH.out.2.1) (hB:=HH.out.2.2) (k1:=.inl rfl) (k2:=HE.out)
theorem vX9 {w:World}{D:Nat->Prop}{b o:Nat}{y:Tr}{r q:List Tr} (h:r=[]∨LG w D b (o+5) r) (hr:r=y::q):∃ ka cap,w.cell? ⟨b,o+5+4,none⟩=some (.slice ka y.kids.length cap)/\eX0 w D ka y.kids:=by
 subst hr;obtain⟨h1,_⟩:=h.resolve_left Cu;obtain⟨yk,yw,yf,yt,ys⟩:=y;obtain⟨ka,cap,e0,e1,e2,e3,e4,e5⟩:=h1;exact⟨ka,cap,e4,e5⟩
theorem qX8 {w:World}{D:Nat->Prop} (x:Tr) (xa:Option Addr) (xc:Nat) (h0:x.kind=53) {a:Tr}{r:List Tr} (hk:x.kids=a::r) (hx:eX0 w D xa x.kids) (hD:∀ b,D b->b < w.heap.size) (ha:¬ a.kids.length=1) :
  Calls Tryz.prog 139 #[tv x xa xc] w (eX1 D w zT zT false):=by
 have d0:((x.kind.toNat:Int)==50)=false:=kbf (k:=x.kind) (n:=50) Ct G7;have d3:((x.kind.toNat:Int) != 53)=false:=pX9 h0;have d1:((a.kids.length:Int) != 1)=true:=by rw [bne_iff_ne];omega
 have i4:(0:Int) < (x.kids.length:Int):=Ew
 rw [hk] at hx;obtain⟨b,o,ka,cap,rfl,hb,e0,_,_,_,e4,_⟩:=sX2 hx;have hbl:=hD b hb;have hb1:b < w.heap.size+1:=Cs
 have hb2:b < w.heap.size+1+1:=Cs
 clear h0 ha hx hk hD hb
 go_in
 go_wp2_with fail;have A:=al3 w (.cells #[.int .u8 (x.kind.toNat:Int),i8 x.word,i8 (x.fr:Int),i8 (x.to:Int),.slice (some ⟨b,o,none⟩) x.kids.length xc] 60);exact SX4 (t:=zT) (u:=zT) (ka:=none) (kb:=none) (ca:=0) (cb:=0) rfl rfl rfl rfl rfl A.1 A.2.1 ⟨none,0,none,0,rfl,A.2.2.2,.inl rfl,.inl rfl⟩
theorem CX8 {w:World}{D:Nat->Prop} (x:Tr) (xa:Option Addr) (xc:Nat) (h0:x.kind=53) {a y:Tr}{r q:List Tr} (hk:x.kids=a::r) (hr:r=y::q) (hx:eX0 w D xa x.kids) (hD:∀ b,D b->b < w.heap.size) (ha:a.kids.length=1) (hy:¬ y.kids.length=1) :
  Calls Tryz.prog 139 #[tv x xa xc] w (eX1 D w zT zT false):=by
 have d0:((x.kind.toNat:Int)==50)=false:=kbf (k:=x.kind) (n:=50) Ct G7;have d3:((x.kind.toNat:Int) != 53)=false:=pX9 h0;have d1:((a.kids.length:Int) != 1)=false:=by rw [ha];rfl
 have d2:((y.kids.length:Int) != 1)=true:=by rw [bne_iff_ne];omega
 have i4:(0:Int) < (x.kids.length:Int):=Ew
 have i5:(1:Int) < (x.kids.length:Int):=by rw [hk,hr];simp;omega
 rw [hk] at hx;obtain⟨b,o,ka,cap,rfl,hb,e0,_,_,_,e4,_,e5⟩:=sX2 hx;obtain⟨kb,cb,f4,_⟩:=vX9 e5 hr;have hbl:=hD b hb;have hb1:b < w.heap.size+1:=Cs
 have hb2:b < w.heap.size+1+1:=Cs
 clear h0 ha hx hk hD hb e5 hr hy
 go_in
 go_wp2_with fail;have A:=al3 w (.cells #[.int .u8 (x.kind.toNat:Int),i8 x.word,i8 (x.fr:Int),i8 (x.to:Int),.slice (some ⟨b,o,none⟩) x.kids.length xc] 60);exact SX4 (t:=zT) (u:=zT) (ka:=none) (kb:=none) (ca:=0) (cb:=0) rfl rfl rfl rfl rfl A.1 A.2.1 ⟨none,0,none,0,rfl,A.2.2.2,.inl rfl,.inl rfl⟩
theorem al5 (w:World) (o o1 o2:Obj):(((((w.alloc o).alloc zO).alloc zO).alloc o1).alloc o2).heap[w.heap.size+1]?=some (.cells (lX0 [(zT,none,0)]).toArray 60 (0,0))/\(((((w.alloc o).alloc zO).alloc zO).alloc o1).alloc o2).heap[w.heap.size+1+1]?=some (.cells (lX0 [(zT,none,0)]).toArray 60 (0,0)) /\
  (((((w.alloc o).alloc zO).alloc zO).alloc o1).alloc o2).heap[w.heap.size+1+1+1]?=some o1/\(((((w.alloc o).alloc zO).alloc zO).alloc o1).alloc o2).heap[w.heap.size+1+1+1+1]?=some o2/\Below w.heap.size w (((((w.alloc o).alloc zO).alloc zO).alloc o1).alloc o2):=by
 obtain⟨h1,h2,_,h4⟩:=al3 w o;have hs:(((w.alloc o).alloc zO).alloc zO).heap.size=w.heap.size+1+1+1:=Cu
 generalize (((w.alloc o).alloc zO).alloc zO)=w1 at *;have b1:=(N' w1.heap.size w1).alloc (C' _) o1;have b2:=b1.alloc b1.size o2;have s1:(w1.alloc o1).heap.size=w1.heap.size+1:=Cu
 refine⟨?_,?_,?_,?_,(h4.alloc h4.size o1).alloc (h4.alloc h4.size o1).size o2⟩
 ·rw [b2.block _ Cs];exact h1
 ·rw [b2.block _ Cs];exact h2
 ·have h:=B8 w1 o1;rw [hs] at h;exact (((N' _ _).alloc (C' _) o2).block _ (by rw [s1,hs];omega)).trans h
 ·have h:=B8 (w1.alloc o1) o2;rw [s1,hs] at h;exact h
theorem cX8 {w:World}{D:Nat->Prop} (x:Tr) (xa:Option Addr) (xc:Nat) (h0:x.kind=53) {a y u v:Tr}{r q:List Tr} (hk:x.kids=a::r) (hr:r=y::q) (hu:a.kids=[u]) (hv:y.kids=[v]) (hx:eX0 w D xa x.kids) (hD:∀ b,D b->b < w.heap.size) :
  Calls Tryz.prog 139 #[tv x xa xc] w (eX1 D w u zT (u.kind==26&&v.kind==33)):=by
 have d0:((x.kind.toNat:Int)==50)=false:=kbf (k:=x.kind) (n:=50) Ct G7;have d3:((x.kind.toNat:Int) != 53)=false:=pX9 h0;have d1:((a.kids.length:Int) != 1)=false:=by rw [hu];rfl
 have d2:((y.kids.length:Int) != 1)=false:=by rw [hv];rfl
 have i4:(0:Int) < (x.kids.length:Int):=Ew
 have i5:(1:Int) < (x.kids.length:Int):=by rw [hk,hr];simp;omega
 have i6:(0:Int) < (a.kids.length:Int):=by rw [hu];simp
 have i7:(0:Int) < (y.kids.length:Int):=by rw [hv];simp
 rw [hk] at hx;obtain⟨b,o,ka,cap,rfl,hb,_,_,_,_,e4,e5,e6⟩:=sX2 hx;obtain⟨kb,cb,f4,f5⟩:=vX9 e6 hr;rw [hu] at e5;rw [hv] at f5;obtain⟨b2,o2,ua,uc,rfl,hb2,u0,u1,u2,u3,u4,u5,_⟩:=sX2 e5;obtain⟨b3,o3,va,vc,rfl,hb3,v0,v1,v2,v3,v4,_⟩:=sX2 f5;have hbl:=hD b hb;have hbl2:=hD b2 hb2;have hbl3:=hD b3 hb3;have l1:b < w.heap.size+1:=Cs
 have l2:b < w.heap.size+1+1:=Cs
 have l3:b < w.heap.size+1+1+1:=Cs
 have m1:b2 < w.heap.size+1:=Cs
 have m2:b2 < w.heap.size+1+1:=Cs
 have n1:b3 < w.heap.size+1:=Cs
 have n2:b3 < w.heap.size+1+1:=Cs
 have n3:b3 < w.heap.size+1+1+1:=Cs
 have A:=hid (al5 w (.cells #[.int .u8 (x.kind.toNat:Int),i8 x.word,i8 (x.fr:Int),i8 (x.to:Int),.slice (some ⟨b,o,none⟩) x.kids.length xc] 60) (.cells #[.int .u8 (u.kind.toNat:Int),i8 u.word,i8 (u.fr:Int),i8 (u.to:Int),.slice ua u.kids.length uc] 60) (.cells #[.int .u8 (v.kind.toNat:Int),i8 v.word,i8 (v.fr:Int),i8 (v.to:Int),.slice va v.kids.length vc] 60));have HE:=hid u5;clear h0 hx hk hD hb e5 f5 hb2 hb3 u5 hu hv hr e6;cases h26:(u.kind==26) with
 | false =>
  have d4:((u.kind.toNat:Int)==26)=false:=kbf (k:=u.kind) (n:=26) Ct (by simpa using h26);clear h26
  go_in
  exact zae
 | true =>
  have d4:((u.kind.toNat:Int)==26)=true:=kbt (k:=u.kind) (n:=26) Ct (B7 h26);clear h26;cases h33:(v.kind==33) with
  | false =>
   have d5:((v.kind.toNat:Int)==33)=false:=kbf (k:=v.kind) (n:=33) Ct (by simpa using h33);clear h33
   go_in
   exact zae
  | true =>
   have d5:((v.kind.toNat:Int)==33)=true:=kbt (k:=v.kind) (n:=33) Ct (B7 h33);clear h33
   go_in
   exact zae
theorem iX6 {E:Env}{w:World}{D:Nat->Prop}{g:Option (Tr × Tr)} (x:Tr) (xa:Option Addr) (xc:Nat) (hg:mX1 E x=some g) (hx:eX0 w D xa x.kids) (hD:∀ b,D b->b < w.heap.size) :
  ∃ t y ok,Calls Tryz.prog 139 #[tv x xa xc] w (eX1 D w t y ok) /\
   ((∃ z,g=some (t,z)/\ok=true/\((x.kind=50/\y=z)∨(x.kind=53/\E.word x.word=[58,61]/\∃ l b q v u,x.kids=l::b::q/\b.kids=[v]/\v.kids=z::u)))∨(g=none/\(ok=false∨(ok=true/\x.kind=53/\¬ E.word x.word=[58,61])))):=by
 unfold mX1 at hg;cases hk:x.kids with
 | nil =>
  rw [hk] at hg
  dsimp only at hg
  split at hg
  ·cases hg
  ·rename_i hn;simp only [Bv,Bh,not_or] at hn;cases hg;exact⟨zT,zT,false,PX4 x xa xc hn.1 hn.2,.inr ⟨rfl,.inl rfl⟩⟩
 | cons a r =>
  rw [hk] at hg
  dsimp only at hg
  by_cases h0:x.kind=50
  ·by_cases ha:a.kind=33
   ·rw [Bb (by rw [h0,ha];rfl)] at hg;cases hy:a.kids with
    | nil=>rw [hy] at hg;cases hg
    | cons y q =>
     rw [hy] at hg;cases hg;exact⟨_,y,true,ZX7 x xa xc h0 hk hy hx hD ha,.inl ⟨y,rfl,rfl,.inl ⟨h0,rfl⟩⟩⟩
   ·rw [Bc (by rw [h0];simpa using ha),Bb G7] at hg;cases hg;exact⟨zT,zT,false,vX8 x xa xc h0 hk hx hD ha,.inr ⟨rfl,.inl rfl⟩⟩
  ·rw [Bc Lk] at hg;by_cases h3:x.kind=53
   ·rw [Bc (by simp [h3])] at hg;by_cases hl:a.kids.length=1
    ·obtain⟨u,hu⟩:∃ u,a.kids=[u]:=List.length_eq_one_iff.1 hl;rw [hu] at hg
     dsimp only at hg
     cases hr:r with
     | nil=>rw [hr] at hg;cases hg
     | cons b q =>
      rw [hr] at hg
      dsimp only at hg
      by_cases hb:b.kids.length=1
      ·obtain⟨v,hv⟩:∃ v,b.kids=[v]:=List.length_eq_one_iff.1 hb;rw [hv] at hg
       dsimp only at hg
       refine⟨u,zT,(u.kind==26&&v.kind==33),cX8 x xa xc h3 hk hr hu hv hx hD,?_⟩;by_cases hc:(u.kind==26&&v.kind==33)=true
       ·rw [Bb hc] at hg;by_cases hw:E.word x.word=[58,61]
        ·rw [Bb (by rw [hw];rfl)] at hg;cases hz:v.kids with
         | nil=>rw [hz] at hg;cases hg
         | cons z t =>
          rw [hz] at hg;cases hg;exact .inl ⟨z,rfl,hc,.inr ⟨h3,hw,a,b,q,v,t,by first|rfl|rw [hr],hv,hz⟩⟩
        ·rw [Bc (by simpa using hw)] at hg;cases hg;exact .inr ⟨rfl,.inr ⟨hc,h3,hw⟩⟩
       ·rw [Bc hc] at hg;cases hg;exact .inr ⟨rfl,.inl (by simpa using hc)⟩
      ·have:g=none:=by
        rcases hbb:b.kids with _|⟨v,_|⟨v2,t⟩⟩
        ·rw [hbb] at hg;cases hg;rfl
        ·rw [hbb] at hb;exact absurd rfl hb
        ·rw [hbb] at hg;cases hg;rfl
       exact⟨zT,zT,false,CX8 x xa xc h3 hk hr hx hD hl hb,.inr ⟨this,.inl rfl⟩⟩
    ·have:g=none:=by
      rcases haa:a.kids with _|⟨v,_|⟨v2,t⟩⟩
      ·rw [haa] at hg;cases hg;rfl
      ·rw [haa] at hl;exact absurd rfl hl
      ·rw [haa] at hg;cases hg;rfl
     exact⟨zT,zT,false,qX8 x xa xc h3 hk hx hD hl,.inr ⟨this,.inl rfl⟩⟩
   ·rw [Bb Iz] at hg;cases hg;exact⟨zT,zT,false,PX4 x xa xc h0 h3,.inr ⟨rfl,.inl rfl⟩⟩
end Rf
