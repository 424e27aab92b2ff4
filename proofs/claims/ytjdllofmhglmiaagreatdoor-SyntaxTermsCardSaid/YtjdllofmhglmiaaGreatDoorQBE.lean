import Derived.Test.YtjdllofmhglmiaaGreatDoorQBD
namespace Go.Proofs.YtjdllofmhglmiaaGreatDoor
open Lib(hid)
set_option linter.all false
set_option maxHeartbeats 40000000
set_option maxRecDepth 100000
namespace Rf
open Go.RowKit
section
variable {v0:Value}{L0:List TK}{E:Ev}{S':RF->St->O Tr}{c p:Nat}{D0 D1:Nat->Prop}{w0 w1 wb w:World}{B B':List (Nat × List TK)}{R:Option (Value × List TK)}{Hd Hd2:List (Tr × Option Addr)}{s s1:St}{F:Tr × St}{X X1:O Tr}{k:UInt8}{n1:Nat}{Q:Ending->World->Prop}
def kept (k:UInt8) (n1:Nat) (v:Value) (L:List TK) (wb:World) (p:Nat):Prop :=
 (L=[]/\wb.heap[p]?=some (.cells (lX0 [(vA k n1,none,0)]).toArray 60 (0,0))) ∨
 (∃ a cap cap',v=.slice a L.length cap/\L≠[]/\wb.heap[p]?=some (.cells (lX0 [(xC k (L.map Prod.fst) n1,a,cap')]).toArray 60 (0,0)))
theorem vX6 {k:UInt8}{ks:List Tr} (n m:Nat) (h:ks≠[]):xC k ks n=xC k ks m:=by
 cases ks with
 | nil=>exact absurd rfl h
 | cons a b=>rfl
structure aX3 (w1 wb:World) (p:Nat) (k:UInt8) (n1:Nat) (v:Value) (L:List TK):Prop where
 fr:Fr [p] w1 wb
 sz:wb.heap.size=w1.heap.size
 kp:kept k n1 v L wb p
theorem WX5 (h:kept k n1 v0 L0 wb p):∃ t ka cap,wb.heap[p]?=some (.cells (lX0 [(t,ka,cap)]).toArray 60 (0,0)):=by
 rcases h with ⟨_,h⟩|⟨_,_,_,_,_,h⟩
 ·exact⟨_,_,_,h⟩
 ·exact⟨_,_,_,h⟩
theorem OX2 {v0:Value}{L0:List TK} (H:Hid (Rx E c D1 wb B R Hd s F X w)) (HP:Hid (aX3 w1 wb p k n1 v0 L0)) (hc:c < p):∃ t ka cap,bX0 w p (.int .u8 ((t:Tr).kind.toNat:Int)) (i8 t.word) (i8 (t.fr:Int)) (i8 (t.to:Int)) (.slice ka t.kids.length cap)/\p < w.heap.size:=by
 obtain⟨t,ka,cap,h⟩:=WX5 HP.out.kp;have hl:=KX0 h;have:=H.out.fr.size;exact⟨t,ka,cap,pX0 ((H.out.fr.block p hl Cv).trans h),Cs⟩
theorem nX2 {v:Value}{L:List TK}{x:TK} (h:Hid (Rx E c D0 w0 ((p,[x])::B) none Hd2 s1 F X1 w1)) (HP:Hid (aX3 w1 wb p k n1 v L))
  (H:Hid (Rx E c (Dn D0 w0 ((p,[x])::B) w1) wb [] (some (v,L)) Hd s F X w)):∃ a cap,Hid (Rx E c D0 w0 ((p,[(xC k (L.map Prod.fst) n1,a,cap)])::B) none ((xC k (L.map Prod.fst) n1,a)::Hd) s F X w):=by
 obtain⟨a,cap,hv,h3,h4⟩:=AX2 H.out;rcases HP.out.kp with ⟨rfl,hb⟩|⟨a2,cap2,cap',hv2,hne,hb⟩
 ·refine⟨none,0,hid (Rx.up h.out (Put.here _) HP.out.fr HP.out.sz hb (h3.have' (t:=vA k n1) (ka:=none) eX0.nil) (.inl rfl))⟩
 ·rw [hv] at hv2
  injection hv2 with e1 e2 e3
  subst e1;exact⟨a,cap',hid (Rx.up h.out (Put.here _) HP.out.fr HP.out.sz hb (h3.have' (t:=xC k (L.map Prod.fst) n1) (ka:=a) (by rw [vX2];exact h4)) (.inr (Bj ..)))⟩
theorem rX4 {v:Value}{L:List TK}{k1:UInt8}{kv:Int} (H:Hid (Rx E c D1 wb B (some (v,L)) Hd s F X w)) (hl:L.length<=1099511627776) (hne:L≠[]) (hkv:(k1.toNat:Int)=kv)
  (k:∀ a cap cap' w',Hid (v=.slice a L.length cap)->Hid (Rx E c D1 wb B (some (v,L)) Hd s F X w')->Q (.returned (tv (xC k1 (L.map Prod.fst) s.n) a cap')) w'):Calls Tryz.prog 61 #[p8 c,.int .u8 kv,v] w Q:=by
 subst hkv;obtain⟨a,cap,rfl,h1,h2⟩:=AX2 H.out;have h3:=iW h1.pd k1 (L.map Prod.fst) a cap _ (fun b hb=>hb.2.1) h2 (by simpa using hl);rw [List.length_map] at h3;refine h3.mono ?_;rintro e w' ⟨⟨ka',cap',rfl,hka⟩,hb⟩;rcases hka with h|⟨rfl,rfl⟩
 ·exact absurd (List.map_eq_nil_iff.1 h) hne
 ·exact k _ _ _ w' (hid rfl) (hid (H.out.below hb))
theorem FX5 {v v0:Value}{L L0:List TK}{a:Option Addr}{cap cap' m:Nat} (H:Hid (Rx E c D1 wb [] (some (v,L)) Hd s F X w)) (HP:Hid (aX3 w1 wb p k n1 v0 L0)) (hc:c < p) (hD:¬ D1 p) (hne:L≠[]) (hv:Hid (v=.slice a L.length cap)) :
  ∃ wb2,Hid (aX3 w1 wb2 p k n1 v L)/\Hid (Rx E c D1 wb2 [] (some (v,L)) Hd s F X ((((((w).setCell (y8 p 0) (.int .u8 ((xC k (L.map Prod.fst) m).kind.toNat:Int))).setCell (y8 p 1) (i8 (xC k (L.map Prod.fst) m).word)).setCell (y8 p 2) (i8 ((xC k (L.map Prod.fst) m).fr:Int))).setCell (y8 p 3) (i8 ((xC k (L.map Prod.fst) m).to:Int))).setCell (y8 p 4) (.slice a (xC k (L.map Prod.fst) m).kids.length cap'))):=by
 obtain⟨t,ka,cap3,hb⟩:=WX5 HP.out.kp;have hcs:(lX0 [(t,ka,cap3)]).length=5:=rfl;refine⟨_,?_,oX9 H hb hcs hc hD⟩;refine hid ⟨HP.out.fr.trans PX0,by simp [HP.out.sz],.inr ⟨a,cap,cap',hv.out,hne,?_⟩⟩;rw [ZX0 hb hcs,vX6 n1 m Ex]
 rfl
theorem mX5 {x:TK}:¬ Dn D0 w0 ((p,[x])::B) w1 p:=fun h=>h.2.2.1 Cu
def XX6 {α:Type} (E:Ev) (c:Nat) (D1:Nat->Prop) (F:Tr × St) (Z:List (Tr × Option Addr)) (w1:World) (p:Nat) (k:UInt8) (n1:Nat) (f:α->St->O (Bool × α)) (K:α->St->O Tr) (g:List Tr->α) (N j:Nat) (v:Value) (wr:World):Prop :=
 ∃ wb s L,L.length+j<=N/\Hid (aX3 w1 wb p k n1 v L)/\Hid (Rx E c D1 wb [] (some (v,L)) Z s F (bnd (iX0 j f (g (L.map Prod.fst)) s) K) wr)
theorem WX2 {α:Type}{Z:List (Tr × Option Addr)}{f f0:α->St->O (Bool × α)}{K K0:α->St->O Tr}{g:List Tr->α}{N j:Nat}{v:Value}{L:List TK}{y:α} (H:Hid (Rx E c D1 wb [] (some (v,L)) Hd s F (bnd (iX0 j f0 y s) K0) w)) (HP:Hid (aX3 w1 wb p k n1 v L)) (hf:Hid (f=f0)) (hk:Hid (K=K0)) (hy:y=g (L.map Prod.fst)) (hl:L.length+j<=N) (hz:∀ x∈Z,x.1.kids=[]∨x∈Hd):XX6 E c D1 F Z w1 p k n1 f K g N j v w:=by
 rw [hf.out,hk.out];subst hy;exact⟨wb,s,L,hl,HP,FX6 H hz⟩
theorem XX9 {α:Type}{j:Nat}{f:α->St->O (Bool × α)}{K:α->St->O Tr}{a:α} (H:Hid (Rx E c D1 wb B R Hd s F (bnd (iX0 (j+1) f a s) K) w)):Hid (Rx E c D1 wb B R Hd s F (bnd (f a s) fun p s=>bnd (if p.1 then iX0 j f p.2 s else some (p.2,s)) K) w):=by
 exact zbm
theorem ZX8 {α:Type}{j:Nat}{f f0:α->St->O (Bool × α)}{K:α->St->O Tr}{a:α} (hf:Hid (f=f0)) (H:Hid (Rx E c D1 wb B R Hd s F (bnd (f a s) fun p s=>bnd (if p.1 then iX0 j f p.2 s else some (p.2,s)) K) w)):Hid (Rx E c D1 wb B R Hd s F (bnd (f0 a s) fun p s=>bnd (if p.1 then iX0 j f p.2 s else some (p.2,s)) K) w):=by
 have h:f a s=f0 a s:=by rw [hf.out]
 rw [h] at H;exact H
theorem bX7 {α:Type}{f:α->St->O (Bool × α)}{K:α->St->O Tr}{a:α} (H:Hid (Rx E c D1 wb B R Hd s F (bnd (iX0 0 f a s) K) w)):False:=by
 exact zen
end
theorem sX9 {E:Ev}{c:Nat}{D0:Nat->Prop}{w0 w:World}{B:List (Nat × List TK)}{R:Option (Value × List TK)}{Hd:List (Tr × Option Addr)}{s:St}{F:Tr × St}{X:O Tr}{P:Program}{C:Code}{Q:Exit->Act->World->Prop}{a:Act} (h:Hid (Rx E c D0 w0 B R Hd s F X w)) (k:∀ w,Hid (Rx E c D0 w0 B R Hd s F X w)->Code.wp P C Q a w):Code.wp P C Q a w:=k w h
end Rf
namespace Rf
open Go.RowKit
theorem aU {E:Ev}{S':RF->St->O Tr}{c:Nat}{s:St}{wz:World}{F:Tr × St}{D0:Nat->Prop}{K:Nat} (HD:Hid (Dr E S')) (h:Pd E c s wz) (x:Tr) (xa:Option Addr) (xc:Nat) (fr:Nat) (hK:K<=100000000000) (hd0:∀ b,D0 b->b≠c/\b < wz.heap.size) (hx:eX0 wz D0 xa x.kids) (hF:hX5 E.toEnv K S' x fr s=some F) :
  Calls Tryz.prog 176 #[p8 c,tv x xa xc,i8 (fr:Int)] wz (Ans E c D0 wz F):=by
 have H:=hid (Rx.start (D0:=D0) (Hd:=[(x,xa)]) h hd0 (fun _ h=>Fx) hF);unfold hX5 at H;have HK:=hid hK;clear h hF hK hd0 hx
 go_in
 have hb_:=fq H;simp only [FB,bX0,Ns] at hb_;go_wp2_with fail
 try clear hb_
 refine nrC fun H=>?_
 try simp only [jZ1] at H
 refine kX0 H ?_;intro s1 w1 H;have hb_:=fq H;simp only [FB,bX0,Ns] at hb_;go_wp2_with fail
 try clear hb_
 refine nrC fun H=>?_
 try simp only [jZ1] at H
 refine IA H ?_;intro w2 H;have hb_:=fq H;simp only [FB,bX0,Ns] at hb_;go_wp2_with fail
 try clear hb_
 apply sX9
 ·exact nr
 intro w3 H;obtain⟨p,hp⟩:∃ p,p=w2.heap.size:=⟨_,rfl⟩;rw [<- hp] at H ⊢;clear hp;have HW:=H;have HCP:Hid (c < p):=hid Gm;have HA:Hid (aX3 w3 w3 p 11 s1.n OE ([]:List TK)):=hid ⟨Fr.refl _ _,rfl,.inl ⟨rfl,(H.out.blk p _ (Bj ..)).2.1⟩⟩;have HDn:=tX1 (hid H.out.down);clear H;have H:=HDn;clear HDn;obtain⟨f,Kc,B,hf,hk,_,H⟩:=lX1 H
 go_loopg [7,8] K (fun j w7 v wr=>w7=i8 (-1)/\XX6 E c (Dn D0 wz [(p,[(vA 11 s1.n,none,0)]),(wz.heap.size+1,[(zT,none,0)]),(wz.heap.size,[(x,xa,xc)])] w3) F [(x,xa)] w3 p 11 s1.n f Kc (fun l=>(l,-1)) K j v wr)
 case atStart=>exact⟨rfl,WX2 H HA hf hk rfl Cu zz⟩
 case round =>
  clear H HA;obtain⟨rfl,wb,s,L,hl,HP,H⟩:=hrel;rcases gk with _|gj
  ·exact (bX7 H).elim
  ·replace H:=XX9 H;have HLN:Hid (L.length+gj+1<=K/\K<=100000000000):=hid ⟨Cs,HK.out⟩;clear hl;rw [hf.out,hk.out] at H
   dsimp only at H
   cases ho:s.ok with
   | false =>
    exact zew
   | true =>
    have d:bv s.b < 0:=MX1.1 Dw;simp only [ho,Bool.true_and] at H;clear ho;have hc_:=fc H;go_wp2_with fail;clear hc_;refine kB H (dX0 H.out.pd _ _) ?_;intro w0 H;cases hn:nx E.toEnv [41] s with
    | true =>
     exact ze5
    | false =>
     simp only [hn,Bu,Be,aX0] at H;have hc_:=fc H;go_wp2_with fail;clear hc_;refine jA HD H (ka:=none) (cap:=0) rfl rfl (.inl rfl) ?_;intro t ka cap s w H;have hc_:=fc H;go_wp2_with (at_builtin;apply VX7;exact nr;intro H;refine iC rfl _ _ rfl H at' rfl rfl Cu Dy ?_;intro v w H);clear hc_;have hne:L++[(t,ka,cap)]≠[]:=Cu
     refine rX4 (k1:=11) H Ek hne Ct ?_;intro la lc lc2 w hva H;obtain⟨qt_,qk_,qc_,h5,hpl⟩:=OX2 H HP HCP.out;simp only [bX0] at h5;go_wp2_with fail;obtain⟨wb2,HP2,H2⟩:=FX5 (m:=s.n) (cap':=lc2) H HP HCP.out mX5 hne hva;clear H HP h5 hpl;have H:=H2;have HP:=HP2;clear H2 HP2 hva;simp only [List.map_append,List.map_cons,List.map_nil] at H;refine kB H (dX0 H.out.pd _ _) ?_;intro w2 H;cases hn2:nx E.toEnv [46,46,46] s with
     | true =>
      simp only [hn2,Ba,Be,Bf,Bool.not_true,Bu,ZQ9,aX0] at H;have hc_:=fc H;go_wp2_with fail;clear hc_;refine kX0 H ?_;intro s2 w2 H;have hc_:=fc H;go_wp2_with fail;clear hc_;refine kB H (dX0 H.out.pd _ _) ?_;intro w3 H;cases hn3:nx E.toEnv [44] s2 with
      | true =>
       simp only [hn3,KX1,Ba,Be,Bf,Bool.not_true,Bu,ZQ9,aX0] at H;have hc_:=fc H;go_wp2_with fail;clear hc_;refine kX0 H ?_;intro s4 w4 H
       try simp only [ZQ9,Bf,Ba] at H
       exact zau
      | false =>
       simp only [hn3,KX1,Ba,Be,Bf,Bool.not_true,Bu,ZQ9,aX0] at H;exact zau
     | false =>
      simp only [hn2,Ba,Be,Bf,Bool.not_true,Bu,ZQ9,aX0] at H;have hc_:=fc H;go_wp2_with fail;clear hc_;refine kB H (dX0 H.out.pd _ _) ?_;intro w3 H;cases hn3:nx E.toEnv [41] s with
      | true =>
       simp only [hn3,Ba,Be,Bf,Bool.not_true,Bu,ZQ9,aX0] at H;exact zby
      | false =>
       simp only [hn3,Ba,Be,Bf,Bool.not_true,Bu,ZQ9,aX0] at H;have hc_:=fc H;go_wp2_with fail;clear hc_;refine kX0 H ?_;intro s4 w4 H;exact zby
end Rf
namespace Rf
open Go.RowKit
theorem EM {E:Ev}{S':RF->St->O Tr}{c:Nat}{s:St}{wz:World}{F:Tr × St}{K:Nat} (HD:Hid (Dr E S')) (h:Pd E c s wz) (hK:K<=100000000000) (hF:wX1 E.toEnv K S' s=some F) :
  Calls Tryz.prog 179 #[p8 c] wz (Ans E c (fun _=>False) wz F):=by
 have H:=hid (Rx.start (D0:=fun _=>False) (Hd:=[]) h (fun _ h=>h.elim) (fun _ h=>Dd) hF);unfold wX1 at H;have HK:=hid hK;clear h hF hK
 go_in
 have hb_:=fq H;simp only [FB,bX0,Ns] at hb_;go_wp2_with fail
 try clear hb_
 refine nrC fun H=>?_
 try simp only [jZ1] at H
 refine kX0 H ?_;intro s1 w1 H;have hb_:=fq H;simp only [FB,bX0,Ns] at hb_;go_wp2_with fail
 try clear hb_
 refine nrC fun H=>?_
 try simp only [jZ1] at H
 refine IA H ?_;intro w2 H;have hb_:=fq H;simp only [FB,bX0,Ns] at hb_;go_wp2_with fail
 try clear hb_
 apply sX9
 ·exact nr
 intro w3 H;obtain⟨p,hp⟩:∃ p,p=w2.heap.size:=⟨_,rfl⟩;rw [<- hp] at H ⊢;clear hp;have HW:=H;have HCP:Hid (c < p):=hid Gm;have HA:Hid (aX3 w3 w3 p 12 s1.n OE ([]:List TK)):=hid ⟨Fr.refl _ _,rfl,.inl ⟨rfl,(H.out.blk p _ (Bj ..)).2.1⟩⟩;have HDn:=tX1 (hid H.out.down);clear H;have H:=HDn;clear HDn;obtain⟨f,Kc,B,hf,hk,_,H⟩:=lX1 H
 go_loopg [3] K (fun j v wr=>XX6 E c (Dn (fun _=>False) wz [(p,[(vA 12 s1.n,none,0)]),(wz.heap.size,[(zT,none,0)])] w3) F [] w3 p 12 s1.n f Kc (fun l=>l) K j v wr)
 case atStart=>exact WX2 H HA hf hk rfl Cu (fun _ h=>nomatch h)
 case round =>
  clear H HA;obtain⟨wb,s,L,hl,HP,H⟩:=hrel;rcases gk with _|gj
  ·exact (bX7 H).elim
  ·replace H:=XX9 H;have HLN:Hid (L.length+gj+1<=K/\K<=100000000000):=hid ⟨Cs,HK.out⟩;clear hl;replace H:=ZX8 hf H;rw [hk.out] at H
   dsimp only at H
   unfold cX3 WX1 at H
   dsimp only at H
   simp only [Bool.false_or] at H;cases ho:s.ok with
   | false =>
    exact zew
   | true =>
    have d:bv s.b < 0:=MX1.1 Dw;simp only [ho,Bool.true_and] at H;clear ho;have hc_:=fc H;go_wp2_with fail;clear hc_;refine kB H (dX0 H.out.pd _ _) ?_;intro w0 H;cases hn:nx E.toEnv [125] s with
    | true =>
     exact ze5
    | false =>
     simp only [hn,Bu,Be,aX0] at H;have hc_:=fc H;go_wp2_with fail;clear hc_;refine jA HD H (ka:=none) (cap:=0) rfl rfl (.inl rfl) ?_;intro t1 ka1 cap1 s1 w1 H;have hb_:=fq H;simp only [FB,bX0,Ns] at hb_;go_wp2_with fail
     try clear hb_
     refine nrC fun H=>?_
     try simp only [jZ1] at H
     refine kB H (dX0 H.out.pd _ _) ?_;intro w2 H;cases hn2:nx E.toEnv [58] s1 with
     | true =>
      simp only [hn2,Be,aX0] at H;have hb_:=fq H;simp only [FB,bX0,Ns] at hb_;go_wp2_with fail
      try clear hb_
      refine nrC fun H=>?_
      try simp only [jZ1] at H
      refine kX0 H ?_;intro s3 w3 H;have hb_:=fq H;simp only [FB,bX0,Ns] at hb_;go_wp2_with fail
      try clear hb_
      refine nrC fun H=>?_
      try simp only [jZ1] at H
      refine jA HD H (ka:=none) (cap:=0) rfl rfl (.inl rfl) ?_;intro t4 ka4 cap4 s4 w4 H;have hb_:=fq H;simp only [FB,bX0,Ns] at hb_;go_wp2_with fail
      try clear hb_
      refine nrC fun H=>?_
      try simp only [jZ1] at H
      refine mX3 H (Del.here _) rfl rfl Di ?_;intro t5 ka5 cap5 s5 w5 H;have hb_:=fq H;simp only [FB,bX0,Ns] at hb_;go_wp2_with (at_builtin;apply VX7;exact nr;intro H;refine iC rfl _ _ rfl H at' rfl rfl Cu Dy ?_;intro v w9 H)
      try clear hb_
      replace H:=pB H;replace H:=pB H;have hne:L++[(t5,ka5,cap5)]≠[]:=Cu
      refine rX4 (k1:=12) H Ek hne Ct ?_;intro la lc lc2 w hva H;obtain⟨qt_,qk_,qc_,h5,hpl⟩:=OX2 H HP HCP.out;simp only [bX0] at h5;go_wp2_with fail;obtain⟨wb2,HP2,H2⟩:=FX5 (m:=s5.n) (cap':=lc2) H HP HCP.out mX5 hne hva;clear H HP h5 hpl;have H:=H2;have HP:=HP2;clear H2 HP2 hva;simp only [List.map_append,List.map_cons,List.map_nil] at H;refine kB H (dX0 H.out.pd _ _) ?_;intro w6 H;cases hn3:nx E.toEnv [125] s5 with
      | true =>
       exact ze0
      | false =>
       exact zev
     | false =>
      simp only [hn2,Ba,Bf,ZQ9] at H;have hb_:=fq H;simp only [FB,bX0,Ns] at hb_;go_wp2_with (at_builtin;apply VX7;exact nr;intro H;refine iC rfl _ _ rfl H at' rfl rfl Cu Dy ?_;intro v w9 H)
      try clear hb_
      replace H:=pB H;have hne:L++[(t1,ka1,cap1)]≠[]:=Cu
      refine rX4 (k1:=12) H Ek hne Ct ?_;intro la lc lc2 w hva H;obtain⟨qt_,qk_,qc_,h5,hpl⟩:=OX2 H HP HCP.out;simp only [bX0] at h5;go_wp2_with fail;obtain⟨wb2,HP2,H2⟩:=FX5 (m:=s1.n) (cap':=lc2) H HP HCP.out mX5 hne hva;clear H HP h5 hpl;have H:=H2;have HP:=HP2;clear H2 HP2 hva;simp only [List.map_append,List.map_cons,List.map_nil] at H;refine kB H (dX0 H.out.pd _ _) ?_;intro w6 H;cases hn3:nx E.toEnv [125] s1 with
      | true =>
       exact ze0
      | false =>
       exact zev
end Rf
namespace Rf
open Go.RowKit
theorem wT {E:Ev}{S':RF->St->O Tr}{c:Nat}{s:St}{wz:World}{F:Tr × St}{K:Nat} (HD:Hid (Dr E S')) (h:Pd E c s wz) (hK:K<=100000000000) (hF:MX4 E.toEnv K S' s=some F) :
  Calls Tryz.prog 32 #[p8 c] wz (Ans E c (fun _=>False) wz F):=by
 have H:=hid (Rx.start (D0:=fun _=>False) (Hd:=[]) h (fun _ h=>h.elim) (fun _ h=>Dd) hF);unfold MX4 at H;have HK:=hid hK;clear h hF hK
 go_in
 have hb_:=fq H;simp only [FB,bX0,Ns] at hb_;go_wp2_with fail
 try clear hb_
 refine nrC fun H=>?_
 try simp only [jZ1] at H
 refine kX0 H ?_;intro s1 w1 H;have hb_:=fq H;simp only [FB,bX0,Ns] at hb_;go_wp2_with fail
 try clear hb_
 refine nrC fun H=>?_
 try simp only [jZ1] at H
 with_reducible refine lG H ?_
 intro t2 ka2 cap2 s2 w2 H;have hb_:=fq H;simp only [FB,bX0,Ns] at hb_;go_wp2_with fail
 try clear hb_
 refine nrC fun H=>?_
 try simp only [jZ1] at H
 refine kX0 H ?_;intro s3 w3 H;have hb_:=fq H;simp only [FB,bX0,Ns] at hb_;go_wp2_with fail
 try clear hb_
 obtain⟨f1,K1,B1,hf,hk,hB,H⟩:=lX1 H
 go_loopg [4] K (fun j v wr=>DX4 E c (fun _=>False) wz F B1 [(t2,ka2)] f1 K1 (K+1) j v wr)
 case atStart =>
  refine⟨s3,[],Cu,?_⟩;exact zat
 case round =>
  clear H;obtain⟨s,L1,hl,H⟩:=hrel;rcases gk with _|gj
  ·exact (iX2 H).elim
  replace H:=it_ H;have HLN:Hid (L1.length+gj+1<=K+1/\K<=100000000000):=hid ⟨Cs,HK.out⟩;clear hl;rw [hB.out] at H;replace H:=ZX8 hf H
  try dsimp only at H
  have hb_:=fq H;simp only [FB,bX0,Ns] at hb_;go_wp2_with fail
  try clear hb_
  refine nrC fun H=>?_
  try simp only [jZ1] at H
  refine kB H (dX0 H.out.pd _ _) ?_;intro w4 H;cases hn:nx E.toEnv [105,109,112,111,114,116] s with
  | true =>
   simp only [hn,Ba,Be,Bf,Bool.not_true,Bu,Bool.true_and,Bool.false_and,ZQ9,aX0] at H;exact ds
  | false =>
   simp only [hn,Ba,Bf,ZQ9] at H;rw [hk.out] at H
   try dsimp only at H
   have hb_:=fq H;simp only [FB,bX0,Ns] at hb_;go_wp2_with fail
   try clear hb_
   refine nrC fun H=>?_
   try simp only [jZ1] at H
   refine VJ (k1:=2) H Ek Ct ?_;intro ka5 cap5 w5 H;obtain⟨imp,himp⟩:∃ imp,imp=xC 2 (L1.map Prod.fst) s.n:=⟨_,rfl⟩;rw [<- himp] at H ⊢;clear himp;have hb_:=fq H;simp only [FB,bX0,Ns] at hb_;go_wp2_with fail
   try clear hb_
   apply sX9
   ·exact nr
   intro w51 H
   try simp only [jZ1] at H
   obtain⟨f2,K2,B2,hf,hk,hB,H⟩:=lX1 H
   go_loopg [5] K (fun j v wr=>DX4 E c (fun _=>False) wz F B2 [(imp,ka5),(t2,ka2)] f2 K2 (K+1) j v wr)
   case atStart =>
    refine⟨s,[],Cu,?_⟩;exact zat
   case round =>
    clear H;obtain⟨s,L2,hl,H⟩:=hrel;rcases gk with _|gj
    ·exact (iX2 H).elim
    replace H:=it_ H;have HLN:Hid (L2.length+gj+1<=K+1/\K<=100000000000):=hid ⟨Cs,HK.out⟩;clear hl;rw [hB.out] at H;replace H:=ZX8 hf H
    try dsimp only at H
    cases ho:s.ok with
    | false =>
     have d:¬ bv s.b < 0:=fun e=>Dh
     simp only [ho,Bool.false_and,Ba,Bf,ZQ9] at H;rw [hk.out] at H
     try dsimp only at H
     clear ho;exact zab
    | true =>
     have d:bv s.b < 0:=MX1.1 Dw;simp only [ho,Bool.true_and] at H;clear ho;have hb_:=fq H;simp only [FB,bX0,Ns] at hb_;go_wp2_with fail
     try clear hb_
     apply aZ0
     ·exact nr
     intro H
     try simp only [jZ1] at H
     refine TX5 H JX7 Cu Ct Cu rfl ?_;intro w8 H;cases ha:am E.toEnv (s.n:Int) [[99,111,110,115,116],[118,97,114],[116,121,112,101],[102,117,110,99]] with
     | true =>
      simp only [ha,Ba,Be,Bf,Bool.not_true,Bu,Bool.true_and,Bool.false_and,ZQ9,aX0] at H;exact ds
     | false =>
      simp only [ha,Ba,Bf,ZQ9] at H;rw [hk.out] at H
      try dsimp only at H
      exact zab
end Rf
