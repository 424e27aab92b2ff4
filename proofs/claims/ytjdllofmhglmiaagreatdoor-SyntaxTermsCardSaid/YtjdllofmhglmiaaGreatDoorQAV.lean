import Derived.Test.YtjdllofmhglmiaaGreatDoorQAU
namespace Go.Proofs.YtjdllofmhglmiaaGreatDoor
open Lib(hid)
set_option linter.all false
set_option maxHeartbeats 40000000
set_option maxRecDepth 100000
namespace Rf
open Go.RowKit
section
variable {E:Ev}{S':RF->St->O Tr}{c:Nat}{D0:Nat->Prop}{w0 w:World}{B B':List (Nat × List TK)}{R:Option (Value × List TK)}{Hd:List (Tr × Option Addr)}{s:St}{F:Tr × St}{X X':O Tr}{Q:Ending->World->Prop}
theorem fc (h:Hid (Rx E c D0 w0 B R Hd s F X w)):w.cell? (y8 c 3)=some (i8 (s.n:Int))/\w.cell? (y8 c 4)=some (i8 (bv s.b))/\w.frozen? (y8 c 3)=false/\c < w.heap.size/\c < w.heap.size+1/\c < w.heap.size+1+1/\c < w.heap.size+2/\(s.n:Int)<=1099511627776/\w.cell? (y8 c 2)=some (.slice E.pa E.pair.length E.pcap):=by
  have hc:=KX0 h.out.pd.blk;refine⟨h.out.pd.cells.2.2.2.1,h.out.pd.cells.2.2.2.2,h.out.pd.free 3,hc,Cs,Cs,Cs,?_,h.out.pd.cells.2.2.1⟩;have:=h.out.pd.at_;have:=h.out.pd.lie.small;omega
def Ns (c p:Nat):List (Nat × List TK)->Prop
  | []=>True
  | (q,_)::r=>(p≠q/\q≠p)/\Ns c p r
def FB (w:World) (c:Nat):List (Nat × List TK)->Prop
  | []=>True
  | (p,[(t,ka,cap)])::r=>bX0 w p (.int .u8 (t.kind.toNat:Int)) (i8 t.word) (i8 (t.fr:Int)) (i8 (t.to:Int)) (.slice ka t.kids.length cap)/\(p < w.heap.size/\p < w.heap.size+1/\p < w.heap.size+1+1/\p < w.heap.size+2/\p≠c/\c≠p)/\Ns c p r/\FB w c r
  | _::r=>FB w c r
theorem NX8 {p:Nat}:∀ B:List (Nat × List TK),p ∉ B.map Prod.fst->Ns c p B
  | [],_=>trivial
  | (q,L)::r,h=>by
    simp only [List.map_cons,List.mem_cons,not_or] at h;exact⟨⟨h.1,Ne.symm h.1⟩,NX8 r h.2⟩
theorem VX5:∀ B:List (Nat × List TK),(B.map Prod.fst).Nodup->(∀ p L,(p,L)∈B->c < p/\w.heap[p]?=some (.cells (lX0 L).toArray 60 (0,0)))->FB w c B
  | [],_,_=>trivial
  | (p,[])::r,hn,h=>by
    simp only [List.map_cons,List.nodup_cons] at hn;exact VX5 r hn.2 (fun q L hm=>h q L (Bm _ hm))
  | (p,[(t,ka,cap)])::r,hn,h=>by
    simp only [List.map_cons,List.nodup_cons] at hn;obtain⟨h1,h2⟩:=h p _ (Bj ..);have hl:=KX0 h2;exact⟨pX0 h2,⟨hl,Cs,Cs,Cs,Cs,Cs⟩,NX8 r hn.1,VX5 r hn.2 (fun q L hm=>h q L (Bm _ hm))⟩
  | (p,x::y::l)::r,hn,h=>by
    simp only [List.map_cons,List.nodup_cons] at hn;exact VX5 r hn.2 (fun q L hm=>h q L (Bm _ hm))
theorem fb (h:Hid (Rx E c D0 w0 B R Hd s F X w)):FB w c B:=VX5 B h.out.nd (fun p L hm=>⟨by have:=(h.out.blk p L hm).1;have:=h.out.cw;omega,(h.out.blk p L hm).2.1⟩)
theorem fq (h:Hid (Rx E c D0 w0 B R Hd s F X w)):(w.cell? (y8 c 3)=some (i8 (s.n:Int))/\w.cell? (y8 c 4)=some (i8 (bv s.b))/\w.frozen? (y8 c 3)=false/\c < w.heap.size/\c < w.heap.size+1/\c < w.heap.size+1+1/\c < w.heap.size+2/\(s.n:Int)<=1099511627776/\w.cell? (y8 c 2)=some (.slice E.pa E.pair.length E.pcap))/\FB w c B:=⟨fc h,fb h⟩
theorem RZ0 {fn:Func}{a:Act}{P:Ending->World->Prop} (h:Hid (Rx E c D0 w0 B R Hd s F X w)) (k:Hid (Rx E c D0 w0 B R Hd s F X w)->bodyPost Tryz.prog fn P .ret a w):bodyPost Tryz.prog fn P .ret a w:=k h
theorem LZ0 (h:bv s.b < 0):s.ok=true:=by rw [<- MX1] at h;unfold St.ok;rw [h];rfl
theorem VX9 (h:¬ bv s.b < 0):s.ok=false:=by
  unfold St.ok;cases hb:s.b with
  | none=>rw [hb] at h;exact absurd Ct h
  | some k=>rfl
theorem bvx {b:Option Nat} (h:0<=bv b) (h':bv b < 0):False:=Cs
theorem FZ0 (h:0<=bv s.b):s.ok=false:=VX9 Cs
theorem vZ0 {f:RF}{K:Tr->St->O Tr} (HD:Hid (Dr E S')) (H:Hid (Rx E c D0 w0 B R Hd s F (bnd (S' f s) K) w)):Hid (Rx E c D0 w0 B R Hd s F (bnd (S' f s) K) w):=H
theorem MZ0 {x:UInt8}{l:List UInt8}{K:Unit->St->O Tr} (H:Hid (Rx E c D0 w0 B R Hd s F (bnd (tk E.toEnv (x::l) s) K) w)):Hid (Rx E c D0 w0 B R Hd s F (bnd (tk E.toEnv (x::l) s) K) w):=H
theorem hX9 {k1:UInt8}{wd:Int}{fr:Nat}{ks:List Tr}{K:Tr->St->O Tr} (H:Hid (Rx E c D0 w0 B R Hd s F (bnd (ret k1 wd fr ks s) K) w)):Hid (Rx E c D0 w0 B R Hd s F (bnd (ret k1 wd fr ks s) K) w):=H
end
theorem isC {f:FuncId}{a:Array Value}{w:World}{Q:Ending->World->Prop} (h:Calls Tryz.prog f a w Q):Calls Tryz.prog f a w Q:=h
theorem isB {fn:Func}{a:Act}{P:Ending->World->Prop}{w:World} (h:bodyPost Tryz.prog fn P .ret a w):bodyPost Tryz.prog fn P .ret a w:=h
theorem at' {P:Prop} (hh:P:=by
  first
  | exact .inl rfl
  | exact .inr (by first|exact Bj ..|(repeat' first|exact Bj ..|apply Bm))):P:=hh
theorem pt {P:Prop} (hh:P:=by repeat' first|exact Put.here _|apply Put.there):P:=hh
theorem dl {P:Prop} (hh:P:=by repeat' first|exact Del.here _|apply Del.there):P:=hh
theorem nr {P:Prop} (hh:P:=by
  first
  | with_reducible exact H
  | ((with_reducible apply PX8);exact nr)
  | ((with_reducible apply KX9);exact nr)
  | ((with_reducible apply cZ0);exact nr)
  | ((with_reducible apply aX7 11);exact nr;decide)
  | ((with_reducible apply aX7 49);exact nr;decide)
  | ((with_reducible apply aX7 12);exact nr;decide)
  | ((with_reducible apply xX3);exact nr;exact at')
  | ((with_reducible apply ZX9);exact nr;exact at';exact at')
  | ((with_reducible apply nX7);exact nr;exact at';exact at';exact at')
  | ((with_reducible apply UX9);exact nr;exact at';exact at';exact at';exact at')
  | ((with_reducible apply SX9);exact nr;exact at';exact at';exact at';exact at';exact at')
  | ((with_reducible apply UX6);exact nr;exact pt)
  | ((with_reducible apply CX4);exact nr;exact pt;exact at')
  | ((with_reducible apply wX9 13);exact nr;exact pt;decide)
  | ((with_reducible apply dB 11);exact nr;exact pt;decide)
  | ((with_reducible apply dB 12);exact nr;exact pt;decide)
  | ((with_reducible apply dB 13);exact nr;exact pt;decide)
  | ((with_reducible apply dB 49);exact nr;exact pt;decide)
  | ((with_reducible apply AZ0);exact nr;exact HL)
  | ((with_reducible apply QZ0);exact nr;exact HL)
  | ((with_reducible apply mZ0);exact nr;exact HL2)):P:=hh
theorem nrC {E:Ev}{c:Nat}{D0:Nat->Prop}{w0 w:World}{B:List (Nat × List TK)}{R:Option (Value × List TK)}{Hd:List (Tr × Option Addr)}{s:St}{F:Tr × St}{X:O Tr}{Q:Ending->World->Prop}{f:FuncId}{args:Array Value} (k:Hid (Rx E c D0 w0 B R Hd s F X w)->Calls Tryz.prog f args w Q) (h:Hid (Rx E c D0 w0 B R Hd s F X w):=by exact nr):Calls Tryz.prog f args w Q:=k h
theorem mm {P:Prop} (hh:P:=by repeat' first|exact Bj ..|apply Bm):P:=hh
theorem nt_ {b:Bool} (h:(!b)=true):b=false:=by cases b <;> simp_all
theorem nf_ {b:Bool} (h:(!b)=false):b=true:=by cases b <;> simp_all
theorem isE {E:Env}{n:Nat}{w:List UInt8}:E.is n w=(E.word (n:Int)==w):=by unfold Env.is;rfl
theorem zX0 {E:Env}{n:Nat}{w:List UInt8}:E.is (n+1) w=(E.word ((n:Int)+1)==w):=by unfold Env.is;simp
theorem AX0 {E:Env}{n:Nat}{w:List UInt8}:E.is (n+2) w=(E.word ((n:Int)+2)==w):=by unfold Env.is;simp
theorem wq {E:Env}{i:Int}{w:List UInt8} (h:E.word i=w):(E.word i==w)=true:=by rw [h];simp
theorem wn {E:Env}{i:Int}{w:List UInt8} (h:¬ E.word i=w):(E.word i==w)=false:=Dp
theorem wx {E:Env}{i:Int}{a:List UInt8} (h:(E.word i==a)=true):∀ b,(a==b)=false->(E.word i==b)=false:=fun b hb=>by rw [B7 h];exact hb
theorem CX6 {E:Env}{s:St} (h:QX0 E s=true):s.n+1 < E.l.length:=by
  unfold QX0 at h;simp only [Bz] at h;exact gA h.2
theorem MX7 {E:Env}{x:UInt8}{l:List UInt8}{s:St} (h:nx E (x::l) s=true):s.n < E.l.length:=by
  obtain⟨n,b⟩:=s;cases b with
  | none=>rw [wX0] at h;exact gA h
  | some k=>rw [VX0] at h;cases h
theorem gX7 {E:Env}{n:Nat}{L:List (List UInt8)} (h:am E (n:Int) L=true) (hL:∀ x∈L,x≠[]):n < E.l.length:=by
  unfold am at h;obtain⟨w,hw,h⟩:=List.any_eq_true.1 h;cases w with
  | nil=>exact absurd rfl (hL _ hw)
  | cons x l=>exact gA (E:=E) (x:=x) (w:=l) (by unfold Env.is;exact h)
theorem qX0 {E:Env}{n:Nat}{x:UInt8}{l:List UInt8} (h:(E.word (n:Int)==(x::l))=true):n < E.l.length:=gA (E:=E) (x:=x) (w:=l) (by unfold Env.is;exact h)
theorem KX8 {E:Ev}{c:Nat}{D0:Nat->Prop}{w0 w:World}{B:List (Nat × List TK)}{R:Option (Value × List TK)}{Hd:List (Tr × Option Addr)}{s:St}{F:Tr × St}{X:O Tr} (H:Hid (Rx E c D0 w0 B R Hd s F X w)) (h:ends E.toEnv s=false):s.n < E.l.length:=by
  have:=H.out.pd.at_;unfold ends Env.ended at h;simp at h;omega
theorem TX5 {E:Ev}{c:Nat}{D0:Nat->Prop}{w0 w:World}{B:List (Nat × List TK)}{R:Option (Value × List TK)}{Hd:List (Tr × Option Addr)}{s:St}{F:Tr × St}{X:O Tr}{Q:Ending->World->Prop}{i:Int}{vs:List Value}{L:List (List UInt8)}{b n cap:Nat} (H:Hid (Rx E c D0 w0 B R Hd s F X w)) (hS:Strs vs L) (hL:∀ x∈L,x≠[]) (hn:L.length<=1000) (hb:b=w.heap.size) (hnn:n=L.length)
    (k:∀ w',Hid (Rx E c D0 w0 B R Hd s F X w')->Q (.returned (.bool (am E.toEnv i L))) w'):Calls Tryz.prog 64 #[p8 c,i8 i,.slice (some (y8 b 0)) n cap] (w.alloc (.cells vs.toArray 9)) Q:=by
  have hB:=(N' w.heap.size w).alloc (C' _) (Obj.cells vs.toArray 9);refine (RX3 H.out.pd i hS hL hn hb hnn).mono ?_;rintro e w' ⟨rfl,hb⟩;exact k w' (hid ((H.out.below hB).below hb))
theorem HZ0 {E:Ev}{c:Nat}{D0:Nat->Prop}{w0 w:World}{B:List (Nat × List TK)}{R:Option (Value × List TK)}{Hd:List (Tr × Option Addr)}{s:St}{F:Tr × St}{K:Unit->St->O Tr} (H:Hid (Rx E c D0 w0 B R Hd s F (bnd (upM E.toEnv s) K) w)):Hid (s.n < E.l.length)/\Hid (Rx E c D0 w0 B R Hd s F (K () s.up) w):=by
  obtain⟨a,s',hm,hK⟩:=RX5 H.out.eq;unfold upM at hm;split at hm
  · rename_i hl
    simp at hm;subst hm;exact⟨hid hl,hid ⟨H.out.pd,H.out.fr,H.out.cw,H.out.d0,H.out.nd,H.out.blk,H.out.row,H.out.hd,hK⟩⟩
  · cases hm
theorem AX9 {E:Ev}{c:Nat}{s:St}{w:World} (h:Pd E c s w):s.n<=1099511627776:=An h.at_ h.lie.small
theorem OZ0 {c:Nat}{a v:Value}{w:World}{Q:Ending->World->Prop} (h:Calls Tryz.prog 64 #[p8 c,a,v] w Q):Calls Tryz.prog 64 #[p8 c,a,v] w Q:=h
theorem aZ0 {E:Ev}{c:Nat}{D0:Nat->Prop}{w0 w:World}{B:List (Nat × List TK)}{R:Option (Value × List TK)}{Hd:List (Tr × Option Addr)}{s:St}{F:Tr × St}{X:O Tr}{Q:Ending->World->Prop}{args:Array Value}{vs:Array Value} (h:Hid (Rx E c D0 w0 B R Hd s F X w)) (k:Hid (Rx E c D0 w0 B R Hd s F X w)->Calls Tryz.prog 64 args (w.alloc (.cells vs 9)) Q):Calls Tryz.prog 64 args (w.alloc (.cells vs 9)) Q:=k h
theorem VX7 {E:Ev}{c:Nat}{D0:Nat->Prop}{w0 w:World}{B:List (Nat × List TK)}{R:Option (Value × List TK)}{Hd:List (Tr × Option Addr)}{s:St}{F:Tr × St}{X:O Tr}{rest:List Oper}{A:Array Oper}{a:Act}{Q:Exit->Act->World->Prop}{vs:Array Value} (h:Hid (Rx E c D0 w0 B R Hd s F X w)) (k:Hid (Rx E c D0 w0 B R Hd s F X w)->wpList Tryz.prog A Q rest a (w.alloc (.cells vs 60))):wpList Tryz.prog A Q rest a (w.alloc (.cells vs 60)):=k h
section
variable {E:Ev}{S':RF->St->O Tr}{c p:Nat}{D0:Nat->Prop}{w0 w:World}{B:List (Nat × List TK)}{L:List TK}{R:Option (Value × List TK)}{Hd Hd':List (Tr × Option Addr)}{s:St}{F:Tr × St}{X:O Tr}{Q:Ending->World->Prop}
def zX6 (E:Ev) (c:Nat) (D0:Nat->Prop) (w0:World) (F:Tr × St) (p:Nat) (B:List (Nat × List TK)) (Z:List (Tr × Option Addr)) (K:Tr->St->O Tr) (w:World):Prop :=
  ∃ s t ka cap,Hid (Rx E c D0 w0 ((p,[(t,ka,cap)])::B) none ((t,ka)::Z) s F (K t s) w)
theorem KX7 {m:O Tr}{K:Tr->St->O Tr}{x:Nat × List TK} (H:Hid (Rx E c D0 w0 (x::B) R Hd s F (bnd m K) w)):∃ K' B',Hid (K'=K)/\Hid (B'=B)/\Hid (Rx E c D0 w0 (x::B) R Hd s F (bnd m K') w):=⟨K,B,hid rfl,hid rfl,H⟩
theorem FX6 (H:Hid (Rx E c D0 w0 B R Hd s F X w)) (h:∀ x∈Hd',x.1.kids=[]∨x∈Hd):Hid (Rx E c D0 w0 B R Hd' s F X w) :=
  hid ⟨H.out.pd,H.out.fr,H.out.cw,H.out.d0,H.out.nd,H.out.blk,H.out.row,fun x hx=>(h x hx).elim (fun e=>by rw [e];exact eX0.nil) (fun m=>H.out.hd x m),H.out.eq⟩
theorem oX2 {K:Tr->St->O Tr}{Z:List (Tr × Option Addr)}{t:Tr}{ka:Option Addr}{cap:Nat} (H:Hid (Rx E c D0 w0 ((p,[(t,ka,cap)])::B) none Hd s F (K t s) w)) (h:∀ x∈(t,ka)::Z,x.1.kids=[]∨x∈Hd):zX6 E c D0 w0 F p B Z K w:=⟨s,t,ka,cap,FX6 H h⟩
theorem zz {P:Prop} (hh:P:=by
  intro x hx;simp only [List.mem_cons,List.not_mem_nil,or_false] at hx
  first
  | (subst hx;exact at')
  | (obtain rfl|rfl:=hx <;> exact at')
  | (obtain rfl|rfl|rfl:=hx <;> exact at')
  | (obtain rfl|rfl|rfl|rfl:=hx <;> exact at')
  | (obtain rfl|rfl|rfl|rfl|rfl:=hx <;> exact at')):P:=hh
end
def tL (E:Ev) (c:Nat) (D0:Nat->Prop) (w0:World) (F:Tr × St) (B:List (Nat × List TK)) (f:List Tr->St->O (Bool × List Tr)) (K:List Tr->St->O Tr) (N j:Nat) (v:Value) (wr:World):Prop :=
  ∃ s L Hd,L.length+j<=N/\Hid (Rx E c D0 w0 B (some (v,L)) Hd s F (bnd (iX0 j f (L.map Prod.fst) s) K) wr)
theorem iX2 {E:Ev}{c:Nat}{D0:Nat->Prop}{w0 w:World}{B:List (Nat × List TK)}{R:Option (Value × List TK)}{Hd:List (Tr × Option Addr)}{s:St}{F:Tr × St}{f:List Tr->St->O (Bool × List Tr)}{K:List Tr->St->O Tr}{a:List Tr} (H:Hid (Rx E c D0 w0 B R Hd s F (bnd (iX0 0 f a s) K) w)):False:=by
  exact zen
theorem it_ {E:Ev}{c:Nat}{D0:Nat->Prop}{w0 w:World}{B:List (Nat × List TK)}{R:Option (Value × List TK)}{Hd:List (Tr × Option Addr)}{s:St}{F:Tr × St}{j:Nat}{f:List Tr->St->O (Bool × List Tr)}{K:List Tr->St->O Tr}{a:List Tr} (H:Hid (Rx E c D0 w0 B R Hd s F (bnd (iX0 (j+1) f a s) K) w)):Hid (Rx E c D0 w0 B R Hd s F (bnd (f a s) fun p s=>bnd (if p.1 then iX0 j f p.2 s else some (p.2,s)) K) w):=by
  exact zbm
theorem rl_ {E:Ev}{c:Nat}{D0:Nat->Prop}{w0 w:World}{B:List (Nat × List TK)}{Hd:List (Tr × Option Addr)}{s:St}{F:Tr × St}{j:Nat}{f:List Tr->St->O (Bool × List Tr)}{K:List Tr->St->O Tr}{v:Value}{L:List TK}{t:Tr}{ka:Option Addr}{cap:Nat}
    (H:Hid (Rx E c D0 w0 B (some (v,L++[(t,ka,cap)])) Hd s F (bnd (iX0 j f (L.map Prod.fst++[t]) s) K) w)):Hid (Rx E c D0 w0 B (some (v,L++[(t,ka,cap)])) Hd s F (bnd (iX0 j f ((L++[(t,ka,cap)]).map Prod.fst) s) K) w):=by
  rw [List.map_append];exact H
theorem cX6 {E:Ev}{c:Nat}{D0:Nat->Prop}{w0 w:World}{B B0:List (Nat × List TK)}{Hd:List (Tr × Option Addr)}{s:St}{F:Tr × St}{j N:Nat}{f f0:List Tr->St->O (Bool × List Tr)}{K K0:List Tr->St->O Tr}{v:Value}{L:List TK}{t:Tr}{ka:Option Addr}{cap:Nat}
    (H:Hid (Rx E c D0 w0 B0 (some (v,L++[(t,ka,cap)])) Hd s F (bnd (iX0 j f0 (L.map Prod.fst++[t]) s) K0) w)) (hB:Hid (B=B0)) (hf:Hid (f=f0)) (hk:Hid (K=K0)) (hl:(L++[(t,ka,cap)]).length+j<=N):tL E c D0 w0 F B f K N j v w:=by
  rw [hB.out,hf.out,hk.out];exact⟨s,_,Hd,hl,rl_ H⟩
def DX4 (E:Ev) (c:Nat) (D0:Nat->Prop) (w0:World) (F:Tr × St) (B:List (Nat × List TK)) (Z:List (Tr × Option Addr)) (f:List Tr->St->O (Bool × List Tr)) (K:List Tr->St->O Tr) (N j:Nat) (v:Value) (wr:World):Prop :=
  ∃ s L,L.length+j<=N/\Hid (Rx E c D0 w0 B (some (v,L)) Z s F (bnd (iX0 j f (L.map Prod.fst) s) K) wr)
theorem ZX5 {E:Ev}{c:Nat}{D0:Nat->Prop}{w0 w:World}{B B0:List (Nat × List TK)}{Hd Z:List (Tr × Option Addr)}{s:St}{F:Tr × St}{j N:Nat}{f f0:List Tr->St->O (Bool × List Tr)}{K K0:List Tr->St->O Tr}{v:Value}{L:List TK}{t:Tr}{ka:Option Addr}{cap:Nat}
    (H:Hid (Rx E c D0 w0 B0 (some (v,L++[(t,ka,cap)])) Hd s F (bnd (iX0 j f0 (L.map Prod.fst++[t]) s) K0) w)) (hB:Hid (B=B0)) (hf:Hid (f=f0)) (hk:Hid (K=K0)) (hl:(L++[(t,ka,cap)]).length+j<=N) (hz:∀ x∈Z,x.1.kids=[]∨x∈Hd):DX4 E c D0 w0 F B Z f K N j v w:=by
  rw [hB.out,hf.out,hk.out];exact⟨s,_,hl,FX6 (rl_ H) hz⟩
theorem lX1 {E:Ev}{c:Nat}{D0:Nat->Prop}{w0 w:World}{B:List (Nat × List TK)}{R:Option (Value × List TK)}{Hd:List (Tr × Option Addr)}{s s1:St}{F:Tr × St}{α:Type}{f:α->St->O (Bool × α)}{K:α->St->O Tr}{k:Nat}{a:α} (H:Hid (Rx E c D0 w0 B R Hd s F (bnd (iX0 k f a s1) K) w)) :
    ∃ f' K' B',Hid (f'=f)/\Hid (K'=K)/\Hid (B'=B)/\Hid (Rx E c D0 w0 B R Hd s F (bnd (iX0 k f a s1) K) w):=⟨f,K,B,hid rfl,hid rfl,hid rfl,H⟩
theorem dk {P:Prop} (hh:P:=by
  first
  | ((with_reducible refine OZ0 ?_)
     apply aZ0
     · exact nr
     intro H
     try simp only [jZ1] at H
     refine TX5 H JX7 Cu Ct Cu rfl ?_;intro w H;exact ds)
  | ((with_reducible refine isC ?_)
     refine nrC fun H=>?_
     try simp only [jZ1] at H
     first
     | (go_at_call 33;refine kB H (dX0 H.out.pd _ _) ?_;intro w H;exact ds)
     | (go_at_call 52;((with_reducible have h9_:=MZ0 H);clear h9_);refine kX0 H ?_;intro s w H;exact ds)
     | (go_at_call 58;refine IA H ?_;intro w H;exact ds)
     | (go_at_call 35;refine rG H ?_;intro w H;exact ds)
     | (go_at_call 48;refine kB H (tX2 H.out.pd _) ?_;intro w H;exact ds)
     | (go_at_call 172;refine kB H (GX1 H.out.pd _) ?_;intro w H;exact ds)
     | (go_at_call 215;refine kB H (LX6 H.out.pd _) ?_;intro w H;exact ds)
     | (go_at_call 34;refine kB H (hX3 H.out.pd) ?_;intro w H;exact ds)
     | (go_at_call 66;refine kB H (nX1 H.out.pd _ _ _) ?_;intro w H;exact ds)
     | (go_at_call 61;(first|refine VJ (k1:=2) H Dy Ct ?_|refine VJ (k1:=10) H Dy Ct ?_|refine VJ (k1:=11) H Dy Ct ?_|refine VJ (k1:=12) H Dy Ct ?_|refine VJ (k1:=13) H Dy Ct ?_|refine VJ (k1:=18) H Dy Ct ?_|refine VJ (k1:=20) H Dy Ct ?_|refine VJ (k1:=23) H Dy Ct ?_|refine VJ (k1:=25) H Dy Ct ?_);intro ka cap w H;exact ds)
     | (go_at_call 87;refine kB H (uX4 H.out.pd) ?_;intro w H;exact ds)
     | (go_at_call 92;refine kB H (JX5 H.out.pd) ?_;intro w H;exact ds)
     | (go_at_call 59;refine kB H (BX5 H.out.pd) ?_;intro w H;exact ds)
     | (go_at_call 141;refine kB H (qX5 H.out.pd) ?_;intro w H;exact ds)
     | (go_at_call 133;refine kB H (NX7 H.out.pd _) ?_;intro w H;exact ds)
     | (go_at_call 134;refine kB H (MX5 H.out.pd (_+1) (by have:=AX9 H.out.pd;omega)) ?_;intro w H;exact ds)
     | (go_at_call 50;refine kB H (text_any H.out.pd _) ?_;intro w H;exact ds)
     | (first|((with_reducible have h9_:=DZ0 H);clear h9_)|have H:=aE H
        first
        | (go_at_call 62;(with_reducible refine lG H ?_);intro t ka cap s w H;exact ds)
        | (go_at_call 143;(with_reducible refine kW H ?_);intro t ka cap s w H;exact ds)
        | (go_at_call 53;((with_reducible have h9_:=hX9 H);clear h9_);(with_reducible refine TZ0 ?_);refine yX8 H Di ?_;intro t ka cap s w H;exact ds)
        | (go_at_call 53;((with_reducible have h9_:=hX9 H);clear h9_);(with_reducible refine VZ0 H ?_);refine mX8 H rfl Di ?_;intro t ka cap s w H;exact ds)
        | (go_at_call 53;((with_reducible have h9_:=hX9 H);clear h9_);refine mX3 H dl rfl rfl Di ?_;intro t ka cap s w H;exact ds)
        | (go_at_call 51;(first|refine WX8 HD H Di ?_|refine WX8 HD (aE H) Di ?_);intro t ka cap s w H;exact ds)
        | (go_at_call 132;refine eX2 H (fun F' hF=>fL HD H.out.pd hF) (fun _ h=>h.elim) ?_;intro t ka cap s w H;exact ds)
        | (go_at_call 138;refine aX8 H at' ?_;intro t ka cap s w H;exact ds)
        | (go_at_call 173;refine eX2 H (fun F' hF=>TS HD H.out.pd hF) (fun _ h=>h.elim) ?_;intro t ka cap s w H;exact ds)
        | (go_at_call 100;(with_reducible refine pL H ?_);intro t ka cap s w H;exact ds)
        | (((with_reducible have h9_:=vZ0 HD H);clear h9_);(first|refine jA HD H (ka:=none) (cap:=0) rfl rfl (.inl rfl) ?_|refine jA HD H rfl rfl (.inr ⟨_,mm,rfl⟩) ?_);intro t ka cap s w H;exact ds)))
  | ((with_reducible refine isB ?_)
     apply RZ0
     · exact nr
     intro H
     try simp only [jZ1] at H
     exact yX7 rfl H rfl rfl mm)
  | (go_roundg gj
     case measure=>omega
     case rel =>
       first
       | exact cX6 H hB hf hk Dc
       | exact cX6 (pB H) hB hf hk Dc
       | exact cX6 (pB (pB H)) hB hf hk Dc
       | exact cX6 (pB (pB (pB H))) hB hf hk Dc
       | exact cX6 (pB (pB (pB (pB H)))) hB hf hk Dc
       | exact cX6 (pB (pB (pB (pB (pB H))))) hB hf hk Dc
       | exact ZX5 H hB hf hk Dc zz
       | exact ZX5 H hB (hid rfl) (hid rfl) Dc zz
       | exact ZX5 (pB H) hB hf hk Dc zz
       | exact ZX5 (pB (pB H)) hB hf hk Dc zz)):P:=hh
theorem ds {P:Prop} (hh:P:=by
  have hb_:=fq H;simp only [FB,bX0,Ns] at hb_;go_wp2_with (at_builtin;apply VX7;exact nr;intro H;refine iC rfl _ _ rfl H at' rfl rfl Cu Dy ?_;intro v w H)
  all_goals
    try try clear hb_
  all_goals
    try ((with_reducible rename _/\_=>h3_);obtain⟨_,_⟩:=h3_)
    try ((with_reducible rename _∨_=>h3_);cases h3_ <;> (try (exfalso;omega)))
  all_goals
    try ((with_reducible rename (_==(0:Int))=true=>h7_);exact absurd (B7 h7_) Cs)
    try ((with_reducible rename 0<=bv _=>h3_);(with_reducible rename bv _ < 0=>h6_);exact (bvx h3_ h6_).elim)
  all_goals
    repeat ((with_reducible rename ¬(Env.word _ _=_)=>h3_);replace h3_:=wn h3_)
    repeat ((with_reducible rename Env.word _ _=_=>h3_);replace h3_:=wq h3_)
    repeat (with_reducible rename ¬(_=true)=>h3_;replace h3_:=eq_false_of_ne_true h3_)
    try (with_reducible rename (!_)=true=>h3_;replace h3_:=nt_ h3_)
    try (with_reducible rename (!_)=false=>h3_;replace h3_:=nf_ h3_)
    try (with_reducible rename nx _ _ _=_=>h4_;simp only [h4_,bs] at H;(try have HL:=hid (MX7 h4_)))
    try (with_reducible rename bv _ < 0=>h4_;have h5_:=LZ0 h4_;simp only [h5_,bs] at H)
    try (with_reducible rename ¬(bv _ < 0)=>h4_;have h5_:=VX9 h4_;simp only [h5_,bs] at H)
    try (with_reducible rename 0<=bv _=>h4_;have h5_:=FZ0 h4_;simp only [h5_,bs] at H)
    try (with_reducible rename Env.named _ _=_=>h4_;simp only [h4_,bs] at H)
    try (with_reducible rename Env.quoted _ _=_=>h4_;simp only [h4_,bs] at H)
    try (with_reducible rename Env.literal _ _=_=>h4_;simp only [h4_,bs] at H)
    try (with_reducible rename am _ _ _=_=>h4_;simp only [h4_,bs] at H;(try have HL:=hid (gX7 h4_ Cu)))
    try (with_reducible rename ends _ _=_=>h4_;simp only [h4_,bs] at H;(try have HL:=hid (KX8 H h4_)))
    try (with_reducible rename xX1 _ _=_=>h4_;simp only [h4_,bs] at H)
    try (with_reducible rename hushed _ _=_=>h4_;simp only [h4_,bs] at H)
    try (with_reducible rename OX0 _ _=_=>h4_;simp only [h4_,bs] at H)
    try (with_reducible rename QX0 _ _=_=>h4_;simp only [h4_,bs] at H;(try have HL2:=hid (CX6 h4_)))
    try (with_reducible rename shutI _ _=_=>h4_;simp only [h4_,bs] at H)
    repeat ((with_reducible rename (Env.word _ _==_)=_=>h4_);(try simp only [h4_,bs] at H);(try have HL:=hid (qX0 h4_));(try (have h8_:=wx h4_;simp (config:={decide:=true}) only [h4_,h8_,bs] at H));(try clear h8_);revert h4_)
    try intros
    try simp only [aX0,ZQ9,Ba,Be,Bf] at H
  all_goals exact dk):P:=hh
theorem lrz {P:Prop} (hh:P:=by
  clear H;obtain⟨s,L,hl,H⟩:=hrel;rcases gk with _|gj
  · exact (iX2 H).elim
  · replace H:=it_ H
    have HLN:Hid (L.length+gj+1<=K+1/\K<=100000000000):=hid ⟨Cs,HK.out⟩;clear hl;rw [hB.out,hf.out,hk.out] at H;simp only [NX3,cX3,WX3] at H
    try simp only [zX0,AX0,isE] at H
    exact ds):P:=hh
theorem lr {P:Prop} (hh:P:=by
  clear H;obtain⟨s,L,Hd,hl,H⟩:=hrel;rcases gk with _|gj
  · exact (iX2 H).elim
  · replace H:=it_ H
    have HLN:Hid (L.length+gj+1<=K+1/\K<=100000000000):=hid ⟨Cs,HK.out⟩;clear hl;rw [hB.out,hf.out,hk.out] at H;simp only [NX3,cX3,WX3] at H
    try simp only [zX0,AX0,isE] at H
    exact ds):P:=hh
end Rf
namespace Rf
open Go.RowKit
theorem YX6 {E:Ev}{S':RF->St->O Tr}{c:Nat}{s:St}{w:World}{F:Tr × St} (HD:Hid (Dr E S')) (h:Pd E c s w) (k1:UInt8) (wd:Int) (fr:Nat) (hF:one S' k1 wd fr s=some F) :
  Calls Tryz.prog 51 #[p8 c,.int .u8 (k1.toNat:Int),i8 wd,i8 (fr:Int)] w (Ans E c (fun _=>False) w F):=by
 have H:=hid (Rx.start (D0:=fun _=>False) (Hd:=[]) h (fun _ h=>h.elim) (fun _ h=>Dd) hF);unfold one at H
 try simp only [zX0,AX0,isE] at H
 clear h hF
 go_in
 exact ds
theorem WX8 {E:Ev}{S':RF->St->O Tr}{c:Nat}{D0:Nat->Prop}{w0 w:World}{B:List (Nat × List TK)}{R:Option (Value × List TK)}{Hd:List (Tr × Option Addr)}{s:St}{F:Tr × St}{Q:Ending->World->Prop}{k1:UInt8}{wd:Int}{fr:Nat}{kv:Int}{K:Tr->St->O Tr} (HD:Hid (Dr E S')) (H:Hid (Rx E c D0 w0 B R Hd s F (bnd (one S' k1 wd fr s) K) w)) (hkv:(k1.toNat:Int)=kv)
  (k:∀ t ka cap s' w',Hid (Rx E c D0 w0 B R ((t,ka)::Hd) s' F (K t s') w')->Q (.returned (tv t ka cap)) w'):Calls Tryz.prog 51 #[p8 c,.int .u8 kv,i8 wd,i8 (fr:Int)] w Q:=by
 subst hkv;exact eX2 H (fun F' hF=>YX6 HD H.out.pd k1 wd fr hF) (fun _ h=>h.elim) k
theorem TS {E:Ev}{S':RF->St->O Tr}{c:Nat}{s:St}{w:World}{F:Tr × St} (HD:Hid (Dr E S')) (h:Pd E c s w) (hF:GX2 E.toEnv S' s=some F) :
  Calls Tryz.prog 173 #[p8 c] w (Ans E c (fun _=>False) w F):=by
 have H:=hid (Rx.start (D0:=fun _=>False) (Hd:=[]) h (fun _ h=>h.elim) (fun _ h=>Dd) hF);unfold GX2 at H
 try simp only [zX0,AX0,isE] at H
 clear h hF
 go_in
 exact ds
theorem fL {E:Ev}{S':RF->St->O Tr}{c:Nat}{s:St}{w:World}{F:Tr × St} (HD:Hid (Dr E S')) (h:Pd E c s w) (hF:xX4 E.toEnv s=some F) :
  Calls Tryz.prog 132 #[p8 c] w (Ans E c (fun _=>False) w F):=by
 have H:=hid (Rx.start (D0:=fun _=>False) (Hd:=[]) h (fun _ h=>h.elim) (fun _ h=>Dd) hF);unfold xX4 at H
 try simp only [zX0,AX0,isE] at H
 clear h hF
 go_in
 exact ds
end Rf
namespace Rf
open Go.RowKit
section
variable {E:Ev}{c p:Nat}{D0 D1:Nat->Prop}{w0 w1 w:World}{B B' B2:List (Nat × List TK)}{R:Option (Value × List TK)}{Hd Hd2:List (Tr × Option Addr)}{s s2:St}{F:Tr × St}{X X2:O Tr}
abbrev Dn (D0:Nat->Prop) (w0:World) (B:List (Nat × List TK)) (w1:World):Nat->Prop:=Dm D0 w0.heap.size (B.map Prod.fst) none w1
theorem Rx.down (h:Rx E c D0 w0 B none Hd s F X w):Rx E c (Dn D0 w0 B w) w [] none Hd s F X w:=Rx.start h.pd (fun _ hb=>h.dm hb) h.hd h.eq
theorem oX9 {v0 v1 v2 v3 v4:Value} (H:Hid (Rx E c D1 w0 B R Hd s F X w)) {cs:List Value} (hbb:w0.heap[p]?=some (.cells cs.toArray 60 (0,0))) (hcs:cs.length=5) (hc:c < p) (hD:¬ D1 p) :
  Hid (Rx E c D1 (((((w0.setCell (y8 p 0) v0).setCell (y8 p 1) v1).setCell (y8 p 2) v2).setCell (y8 p 3) v3).setCell (y8 p 4) v4) B R Hd s F X (((((w.setCell (y8 p 0) v0).setCell (y8 p 1) v1).setCell (y8 p 2) v2).setCell (y8 p 3) v3).setCell (y8 p 4) v4)):=by
 have h:=H.out;have f0:Fr [p] w0 _:=PX0 (w:=w0) (p:=p) (v0:=v0) (v1:=v1) (v2:=v2) (v3:=v3) (v4:=v4);have f1:Fr [p] w _:=PX0 (w:=w) (p:=p) (v0:=v0) (v1:=v1) (v2:=v2) (v3:=v3) (v4:=v4);have hz0:(((((w0.setCell (y8 p 0) v0).setCell (y8 p 1) v1).setCell (y8 p 2) v2).setCell (y8 p 3) v3).setCell (y8 p 4) v4).heap.size=w0.heap.size:=Cu
 have hz1:(((((w.setCell (y8 p 0) v0).setCell (y8 p 1) v1).setCell (y8 p 2) v2).setCell (y8 p 3) v3).setCell (y8 p 4) v4).heap.size=w.heap.size:=Cu
 have hp:=KX0 hbb;have hsm:=(ZX0 (v0:=v0) (v1:=v1) (v2:=v2) (v3:=v3) (v4:=v4) ((h.fr.block p hp Cv).trans hbb) hcs).trans (ZX0 (v0:=v0) (v1:=v1) (v2:=v2) (v3:=v3) (v4:=v4) hbb hcs).symm;generalize (((((w0.setCell (y8 p 0) v0).setCell (y8 p 1) v1).setCell (y8 p 2) v2).setCell (y8 p 3) v3).setCell (y8 p 4) v4)=w0' at *;generalize (((((w.setCell (y8 p 0) v0).setCell (y8 p 1) v1).setCell (y8 p 2) v2).setCell (y8 p 3) v3).setCell (y8 p 4) v4)=w' at *;have hw:=h.fr.size;have hne:∀ b,Dm D1 w0.heap.size (B.map Prod.fst) (rbk R) w b->b≠p:=fun b hb e=>by
  subst e;rcases hb.1 with h1|h1
  ·exact hD h1
  ·omega
 have hk:∀ b,Dm D1 w0.heap.size (B.map Prod.fst) (rbk R) w b->w'.heap[b]?=w.heap[b]?:=fun b hb=>f1.block b hb.2.1 (by simpa using hne b hb)
 have hd:∀ b,Dm D1 w0.heap.size (B.map Prod.fst) (rbk R) w b->Dm D1 w0'.heap.size (B.map Prod.fst) (rbk R) w' b:=fun b hb=>⟨by rw [hz0];exact hb.1,by rw [hz1];exact hb.2.1,hb.2.2⟩
 refine hid ⟨h.pd.later f1 (fun k hk=>Dj),?_,by rw [hz0];exact h.cw,fun b hb=>by rw [hz0];exact h.d0 b hb,h.nd,fun q M hq=>?_,fun v L2 hr=>?_,fun x hx=>(h.hd x hx).kept hk hd,h.eq⟩
 ·refine⟨f1.os.trans (h.fr.os.trans f0.os.symm),f1.tape.trans (h.fr.tape.trans f0.tape.symm),f1.output.trans (h.fr.output.trans f0.output.symm),Cs,fun k hk hkc=>?_⟩;by_cases e:k=p
  ·subst e;exact hsm
  ·rw [f1.block k Cs Fa,h.fr.block k Cs hkc,f0.block k Cs Fa]
 ·obtain⟨h1,h2,h3⟩:=h.blk q M hq;exact⟨by rw [hz0];exact h1,f1.at_ Cv h2,fun x hx=>(h3 x hx).kept hk hd⟩
 ·obtain⟨h1,h2,h3⟩:=h.row v L2 hr;rw [hz0];refine⟨qD h1 f1 (fun b hb e=>?_),h2,fun x hx=>(h3 x hx).kept hk (by rw [hz0] at hd;exact hd)⟩;simp at hb;subst hb;have:=(h1.lt _ e).1;omega
theorem Rx.up {x y:TK}{wb:World} (h:Rx E c D0 w0 B none Hd s F X w1) (hP:Put p [x] [y] B B') (hf:Fr [p] w1 wb) (hz:wb.heap.size=w1.heap.size) (hb:wb.heap[p]?=some (.cells (lX0 [y]).toArray 60 (0,0)))
  (h2:Rx E c (Dn D0 w0 B w1) wb [] none Hd2 s2 F X2 w) (hy:Hs Hd2 y):Rx E c D0 w0 B' none Hd2 s2 F X2 w:=by
 have hfst:=hP.fst;have hc:=h.cw;have hw1:=h.fr.size;have hw:=h2.fr.size;have hp0:=(h.blk p _ hP.mem).1;have hpl:=KX0 (h.blk p _ hP.mem).2.1;have hlt:∀ q M,(q,M)∈B->q < w1.heap.size:=fun q M hm=>KX0 (h.blk q M hm).2.1
 have hd:∀ b,Dm (Dn D0 w0 B w1) wb.heap.size (([]:List (Nat × List TK)).map Prod.fst) (rbk none) w b->Dm D0 w0.heap.size (B'.map Prod.fst) (rbk none) w b:=fun b hb=>by
  rcases hb.1 with h1|h1
  ·exact⟨h1.1,hb.2.1,by rw [hfst];exact h1.2.2.1,Lb⟩
  ·refine⟨.inr Cs,hb.2.1,fun e=>?_,Lb⟩;rw [hfst] at e;obtain⟨⟨q,M⟩,hm,rfl⟩:=List.mem_map.1 e;have:=hlt q M hm;simp at h1;omega
 have hk0:∀ b,b < w1.heap.size->b≠c->b≠p->w.heap[b]?=w1.heap[b]?:=fun b h1 h3 h4=>(h2.fr.block b Cs Iz).trans (hf.block b h1 Jg)
 refine⟨h2.pd,?_,h.cw,h.d0,by rw [hfst];exact h.nd,fun q M hq=>?_,fun _ _ e=>Ld,fun x hx=>(h2.hd x hx).kept (fun _ _=>rfl) hd,h2.eq⟩
 ·exact (h.fr.trans' hf (fun k hk=>.inr Dj)).trans h2.fr
 ·rcases hP.cases' h.nd hq with ⟨rfl,rfl⟩|⟨hqB,hqp⟩
  ·refine⟨hp0,(h2.fr.block _ Cs Cv).trans hb,fun z hz=>?_⟩;simp at hz;subst hz;rcases hy with e|hm
   ·rw [e];exact eX0.nil
   ·exact (h2.hd _ hm).kept (fun _ _=>rfl) hd
  ·obtain⟨h1,h3,h4⟩:=h.blk q M hqB;have:=hlt q M hqB;refine⟨h1,(hk0 q this Cs hqp).trans h3,fun z hz=>(h4 z hz).kept (fun b hb=>?_) (fun b hb=>?_)⟩
   ·exact hk0 b hb.2.1 (h.dm hb).1 (fun e=>hb.2.2.1 (by subst e;exact List.mem_map.2 ⟨_,hP.mem,rfl⟩))
   ·exact⟨hb.1,Fc,by rw [hfst];exact hb.2.2.1,Lb⟩
end
end Rf
