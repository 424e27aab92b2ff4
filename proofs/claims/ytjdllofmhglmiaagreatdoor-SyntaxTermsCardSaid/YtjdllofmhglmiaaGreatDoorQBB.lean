import Derived.Test.YtjdllofmhglmiaaGreatDoorQAV
namespace Go.Proofs.YtjdllofmhglmiaaGreatDoor
open Lib(hid)
set_option linter.all false
set_option maxHeartbeats 40000000
set_option maxRecDepth 100000
namespace Rf
open Go.RowKit
def aQ1 (L:List (List UInt8)):List Value:=L.map fun x=>.string ⟨x.toArray⟩
theorem aX6 (w:World) (L:List (List UInt8)) (t:TypeId):∀ j x,L[j]?=some x->(w.alloc (.cells (aQ1 L).toArray t)).cell? (y8 w.heap.size j)=some (.string ⟨x.toArray⟩):=by
 intro j x hx;unfold World.cell?;rw [B8 w];simp [aQ1,hx]
theorem FX8 {w:World}:∀ j:Nat,j<=4->Calls Tryz.prog 91 #[i8 (j:Int)] w fun e w'=>e=.returned (.slice (some (y8 w.heap.size 0)) (dX3 j).length (dX3 j).length)/\w'=w.alloc (.cells (aQ1 (dX3 j)).toArray 9)
 | 0,_=>by
  go_in
  exact zaq
 | 1,_=>by
  go_in
  exact zaq
 | 2,_=>by
  go_in
  exact zaq
 | 3,_=>by
  go_in
  exact zaq
 | 4,_=>by
  go_in
  exact zaq
 | j+5,h=>absurd h Cs
section
variable {E:Ev}{S':RF->St->O Tr}{c:Nat}{D0:Nat->Prop}{w0 w:World}{B:List (Nat × List TK)}{R:Option (Value × List TK)}{Hd:List (Tr × Option Addr)}{s:St}{F:Tr × St}{X:O Tr}{Q:Ending->World->Prop}
def iX7 (E:Ev) (c:Nat) (D0:Nat->Prop) (w0:World) (F:Tr × St) (p:Nat) (B:List (Nat × List TK)) (f:Tr->St->O (Bool × Tr)) (K:Tr->St->O Tr) (j:Nat) (wr:World):Prop :=
 ∃ s t ka cap Hd,Hid (Rx E c D0 w0 ((p,[(t,ka,cap)])::B) none ((t,ka)::Hd) s F (bnd (iX0 j f t s) K) wr)
theorem CX7 {f:Tr->St->O (Bool × Tr)}{K:Tr->St->O Tr}{a:Tr} (H:Hid (Rx E c D0 w0 B R Hd s F (bnd (iX0 0 f a s) K) w)):False:=by
 exact zen
theorem oZ0 {j:Nat}{f:Tr->St->O (Bool × Tr)}{K:Tr->St->O Tr}{a:Tr} (H:Hid (Rx E c D0 w0 B R Hd s F (bnd (iX0 (j+1) f a s) K) w)):Hid (Rx E c D0 w0 B R Hd s F (bnd (f a s) fun p s=>bnd (if p.1 then iX0 j f p.2 s else some (p.2,s)) K) w):=by
 exact zbm
theorem zX4 {p:Nat}{B0:List (Nat × List TK)}{j:Nat}{f f0:Tr->St->O (Bool × Tr)}{K K0:Tr->St->O Tr}{t:Tr}{ka:Option Addr}{cap:Nat} (H:Hid (Rx E c D0 w0 ((p,[(t,ka,cap)])::B0) none ((t,ka)::Hd) s F (bnd (iX0 j f0 t s) K0) w)) (hB:Hid (B=B0)) (hf:Hid (f=f0)) (hk:Hid (K=K0)):iX7 E c D0 w0 F p B f K j w:=by
 rw [hB.out,hf.out,hk.out];exact⟨s,t,ka,cap,Hd,H⟩
end
section
variable {E:Ev}{S':RF->St->O Tr}{c:Nat}
theorem oX5 {s:St}{wz:World}{F:Tr × St}{K:Nat}{hd:Bool} (j:Nat) (hj:j<=4) (HD:Hid (Dr E S')) (h:Pd E c s wz) (hK:K<=100000000000) {n n1:Int} (hn:n+1=n1) (hn1:n1<=5) (hn0:1<=n1) (hnj:n=((4 - j:Nat):Int))
  (hC:∀ s w F,Pd E c s w->uX0 E.toEnv K S' hd j s=some F->Calls Tryz.prog 57 #[p8 c,i8 n1,.bool hd] w (Ans E c (fun _=>False) w F))
  (hF:uX0 E.toEnv K S' hd (j+1) s=some F) :
  Calls Tryz.prog 57 #[p8 c,i8 n,.bool hd] wz (Ans E c (fun _=>False) wz F):=by
 have H:=hid (Rx.start (D0:=fun _=>False) (Hd:=[]) h (fun _ h=>h.elim) (fun _ h=>Dd) hF);unfold uX0 at H;have HK:=hid hK;have HC:=hid hC;have HOP:=hid (fun w=>FX8 (w:=w) (4 - j) Cs);rw [<- hnj] at HOP;have HOL:=hid (show ∀ x∈dX3 (4 - j),x≠[] from by
  have:∀ k:Fin 5,∀ x∈dX3 k.val,x≠[]:=Ct
  exact this ⟨4 - j,Cs⟩)
 have HON:=hid (show (dX3 (4 - j)).length<=1000 from by
  have:∀ k:Fin 5,(dX3 k.val).length<=1000:=Ct
  exact this ⟨4 - j,Cs⟩)
 generalize dX3 (4 - j)=ol at H HOP HOL HON;have hn5:(n==5)=false:=Cv
 have hw:IntKind.i64.wrap (n+1)=n1:=Cy
 clear h hF hK hC hn hn1 hn0 hnj hj
 go_in
 have hc_:=fc H;go_wp2_with fail;clear hc_;refine nrC fun H=>?_
 try simp only [jZ1] at H
 refine eX2 H (fun F' hF=>HC.out _ _ _ H.out.pd hF) (fun _ h=>h.elim) ?_;intro t ka cap s1 w H;have hb_:=fq H;simp only [FB,bX0,Ns] at hb_;go_wp2_with fail
 try clear hb_
 obtain⟨f,Kc,B,hf,hk,hB,H⟩:=lX1 (aE H)
 go_loopg [] K (fun j wr=>iX7 E c (fun _=>False) wz F w.heap.size B f Kc j wr)
 case atStart =>
  exact zee
 case round =>
  clear H;obtain⟨s,t,ka,cap,Hd,H⟩:=hrel;rcases gk with _|gj
  ·exact (CX7 H).elim
  ·replace H:=oZ0 H;rw [hB.out,hf.out,hk.out] at H;go_wp2_with fail;go_wp2_with fail;go_wp2_with fail;go_wp2_with fail;go_wp2_with fail;have Hw:=yC H;have hc_:=fc Hw;have c4:=hc_.2.1;have c3:=hc_.1;clear hc_;cases ho:s.ok with
   | false =>
    have d:¬ bv s.b < 0:=fun e=>Dh
    simp only [ho,Bool.false_and,Ba,Bf,ZQ9] at Hw;clear H ho;refine Ce (S:=fun w'=>w'.cell? (y8 c 4)=some (i8 (bv s.b))) Cw ?_ (fun hHeld=>?_)
    ·exact c4
    refine tn_ 0 ?_;refine tn_ 1 ?_;refine tn_ 2 ?_;refine tn_ 3 ?_;refine tn_ 4 ?_;refine tn_ 5 ?_;refine tm_ 6 ?_;refine tm_ 7 ?_;refine tm_ 8 ?_;refine tm_ 9 ?_;refine tm_ 10 ?_;refine tm_ 11 ?_;refine tm_ 12 ?_;refine tm_ 13 ?_;refine tn_ 14 ?_;exact zc3
   | true =>
    have d:bv s.b < 0:=MX1.1 Dw;simp only [ho,Bool.true_and] at Hw;clear H;refine Ce (S:=fun w'=>w'.cell? (y8 c 4)=some (i8 (bv s.b))/\w'.cell? (y8 c 3)=some (i8 (s.n:Int))) Cw ?_ (fun hHeld=>?_)
    ·exact⟨c4,c3⟩
    refine tn_ 0 ?_;refine tn_ 1 ?_;refine tn_ 2 ?_;refine tn_ 3 ?_;refine tn_ 4 ?_;refine tn_ 5 ?_;refine tn_ 6 ?_;refine tn_ 7 ?_;refine tn_ 8 ?_;refine tn_ 9 ?_;refine tn_ 10 ?_;refine tn_ 11 ?_;refine Cb (rs:=[12]) Cw Cu (Cc (o:=?_) ?_ (fun Kk hKk=>?_) Cd)
    rotate_left
    ·exact Cf
    go_simp;go_at_call 91;refine (HOP.out _).mono ?_;rintro e w6 ⟨rfl,hw6⟩;have hb6:Below wr.drew.heap.size wr.drew w6:=Iu
    have H6:=hid (Hw.out.below hb6);have hs6:∀ jj x,ol[jj]?=some x->w6.cell? (y8 wr.drew.heap.size jj)=some (.string ⟨x.toArray⟩):=by rw [hw6];exact aX6 _ _ _
    have hz6:wr.drew.heap.size < w6.heap.size:=by rw [hw6];simp
    clear hw6 hb6;have HS6:=hid (Az hs6 hz6);clear hs6 hz6;go_wp2_with fail;refine hKk.out _ _ ?_ (fun hHeld12=>?_)
    ·exact⟨(fc H6).2.1,(fc H6).1⟩
    clear hKk Kk
    try simp only [Act.put,Q',Z',Aa]
    refine Cb (rs:=[13]) Cw Cu (Cc (o:=?_) ?_ (fun Kk hKk=>?_) Cd)
    rotate_left
    ·exact Cf
    go_simp;go_at_call 64;refine (SX2 H6.out.pd _ ol HOL.out _ _ HS6.out.2 HS6.out.1 HON.out).mono ?_;rintro e w7 ⟨rfl,hb7⟩;have H7:=hid (H6.out.below hb7);clear hb7 H6 Hw HS6;go_wp2_with fail;refine hKk.out _ _ ?_ (fun hHeld13=>?_)
    ·exact⟨(fc H7).2.1,(fc H7).1⟩
    clear hKk Kk
    try simp only [Act.put,Q',Z',Aa]
    refine tn_ 14 ?_;refine wpAnyH_done Cw ?_ _;clear hHeld hHeld12 hHeld13 c3 c4;have H:=H7;clear H7;cases ha:am E.toEnv (s.n:Int) ol with
    | false =>
     simp only [ha,Ba,Bf,ZQ9] at H;exact ds
    | true =>
     have HL:=hid (gX7 ha HOL.out);simp only [ha,Be,aX0] at H;have hb_:=fq H;simp only [FB,bX0,Ns] at hb_;go_wp2_with fail
     try clear hb_
     refine nrC fun H=>?_
     try simp only [jZ1] at H
     refine eX2 H (fun F' hF=>HC.out _ _ _ H.out.pd hF) (fun _ h=>h.elim) ?_;intro t ka cap s2 w2 H;have hb_:=fq H;simp only [FB,bX0,Ns] at hb_;go_wp2_with fail
     try clear hb_
     refine nrC fun H=>?_
     try simp only [jZ1] at H
     refine mX3 H dl rfl rfl Di ?_;intro t ka cap s3 w3 H;have hb_:=fq H;simp only [FB,bX0,Ns] at hb_;go_wp2_with fail
     try clear hb_
     go_roundg gj
     case measure=>omega
     case rel =>
      simp only [ZQ9,aX0,Be] at H;have H:=pB H;exact zb8
end
end Rf
namespace Rf
open Go.RowKit
section
variable {E:Ev}{S':RF->St->O Tr}{c:Nat}
theorem WT {K:Nat}{hd:Bool} (HD:Hid (Dr E S')) (hK:K<=100000000000):∀ j,j<=5->∀ {s:St}{w:World}{F:Tr × St},Pd E c s w->uX0 E.toEnv K S' hd j s=some F->Calls Tryz.prog 57 #[p8 c,i8 ((5 - j:Nat):Int),.bool hd] w (Ans E c (fun _=>False) w F)
 | 0,_,s,w,F,h,hF=>by
  have H:=hid (Rx.start (D0:=fun _=>False) (Hd:=[]) h (fun _ h=>h.elim) (fun _ h=>Dd) hF);unfold uX0 at H;clear h hF
  show Calls Tryz.prog 57 #[p8 c,i8 5,.bool hd] w (Ans E c (fun _=>False) w F)
  go_in
  exact ds
 | j+1,hj,s,w,F,h,hF=>oX5 j Cs HD h hK (n:=((5 - (j+1):Nat):Int)) (n1:=((5 - j:Nat):Int)) Cs Cs Cs Cs (fun s w F h hF=>WT HD hK j Cs h hF) hF
theorem XS {K:Nat}{s:St}{w:World}{F:Tr × St} (HD:Hid (Dr E S')) (h:Pd E c s w) (hd:Bool) (hK:K<=100000000000) (hF:uX0 E.toEnv K S' hd 5 s=some F) :
  Calls Tryz.prog 30 #[p8 c,.bool hd] w (Ans E c (fun _=>False) w F):=by
 have H:=hid (Rx.start (D0:=fun _=>False) (Hd:=[]) h (fun _ h=>h.elim) (fun _ h=>Dd) hF);have HL:=hid (fun (s:St) (w:World) (F:Tr × St) (h:Pd E c s w) (hF:uX0 E.toEnv K S' hd 5 s=some F)=>WT HD hK 5 (C' _) h hF);clear h hF
 go_in
 go_wp2_with fail;refine nrC fun H=>?_
 refine eX2 (aE H) (fun F' hF=>HL.out _ _ _ H.out.pd hF) (fun _ h=>h.elim) ?_;intro t ka cap s w H;exact ds
theorem rX9 {hd:Bool}{x:Tr} (h:¬ (x.kind=41∨x.kind=42∨x.kind=43∨x.kind=44∨x.kind=47)):filled hd x=(!hd&&plain (if x.kind=30 then (match x.kids with|k::_=>k|[]=>x) else x)):=by
 unfold filled;rw [Bc h];rfl
theorem u8i {k:UInt8}{n:Nat} (h:n < 256):((k.toNat:Int)==(n:Int))=(k==UInt8.ofNat n):=by
 rw [Bg,Bh,Bh];constructor
 ·exact Cm
 ·intro e;rw [e,UInt8.toNat_ofNat_of_lt' h]
end
end Rf
namespace Rf
open Go.RowKit
theorem sX2 {w:World}{D:Nat->Prop}{xa:Option Addr}{y:Tr}{r:List Tr} (h:eX0 w D xa (y::r)):∃ b o ka cap,xa=some (y8 b o)/\D b/\w.cell? (y8 b o)=some (.int .u8 (y.kind.toNat:Int))/\w.cell? (y8 b (o+1))=some (i8 y.word)/\w.cell? (y8 b (o+2))=some (i8 (y.fr:Int))/\w.cell? (y8 b (o+3))=some (i8 (y.to:Int)) /\
  w.cell? (y8 b (o+4))=some (.slice ka y.kids.length cap)/\eX0 w D ka y.kids/\(r=[]∨LG w D b (o+5) r):=by
 obtain⟨b,o,rfl,hb,h1,h2⟩:=h.resolve_left Cu;obtain⟨yk,yw,yf,yt,ys⟩:=y;obtain⟨ka,cap,e0,e1,e2,e3,e4,e5⟩:=h1;exact⟨b,o,ka,cap,rfl,hb,e0,e1,e2,e3,e4,e5,.inr h2⟩
theorem ki {k:UInt8}{n:Nat} (h:n < 256):(k=UInt8.ofNat n)↔(k.toNat:Int)=(n:Int):=by
 constructor
 ·intro e;rw [e,UInt8.toNat_ofNat_of_lt' h]
 ·exact Cm
theorem kbt {k:UInt8}{n:Nat} (h:n < 256) (e:k=UInt8.ofNat n):((k.toNat:Int)==(n:Int))=true:=by rw [u8i h];simpa using e
theorem kbf {k:UInt8}{n:Nat} (h:n < 256) (e:¬ k=UInt8.ofNat n):((k.toNat:Int)==(n:Int))=false:=by rw [u8i h];simpa using e
theorem tQ5 {w:World}{D:Nat->Prop} (x:Tr) (xa:Option Addr) (xc:Nat) (hd:Bool) (hx:eX0 w D xa x.kids) (hD:∀ b,D b->b < w.heap.size) (hok:rX2 x=true) :
  Calls Tryz.prog 178 #[tv x xa xc,.bool hd] w fun e w'=>e=.returned (.bool (filled hd x))/\Below w.heap.size w w':=by
 have hB:=(N' w.heap.size w).alloc (C' _) (Obj.cells #[.int .u8 (x.kind.toNat:Int),i8 x.word,i8 (x.fr:Int),i8 (x.to:Int),.slice xa x.kids.length xc] 60);have hv:=pX0 (B8 w (Obj.cells #[.int .u8 (x.kind.toNat:Int),i8 x.word,i8 (x.fr:Int),i8 (x.to:Int),.slice xa x.kids.length xc] 60));have HB:=hid hB;have hu:=x.kind.toNat_lt;by_cases hA:x.kind=41∨x.kind=42∨x.kind=43∨x.kind=44∨x.kind=47
 ·have hT:filled hd x=true:=by unfold filled;rw [Bb hA]
  rw [hT];have hA2:(41<=(x.kind.toNat:Int)/\(x.kind.toNat:Int)<=44)∨(¬ 41<=(x.kind.toNat:Int)∨¬ (x.kind.toNat:Int)<=44)/\((x.kind.toNat:Int)==47)=true:=by
   rcases hA with e|e|e|e|e
   ·left;rw [e];decide
   ·left;rw [e];decide
   ·left;rw [e];decide
   ·left;rw [e];decide
   ·right;rw [e];decide
  clear hx hD hok hT hA hB;simp only [bX0] at hv;rcases hA2 with ⟨h1,h2⟩|⟨h1,h2⟩
  ·go_in
   go_wp2_with fail;go_ret;exact⟨rfl,Fg⟩
  ·go_in
   go_wp2_with fail
   all_goals go_ret
   all_goals exact⟨rfl,Fg⟩
 ·have hA2:¬ 41<=(x.kind.toNat:Int)∨¬ (x.kind.toNat:Int)<=44:=by
   have a1:¬ (x.kind.toNat:Int)=41:=fun e=>hA (.inl ((ki Ct).2 e))
   have a2:¬ (x.kind.toNat:Int)=42:=fun e=>hA (.inr (.inl ((ki Ct).2 e)))
   have a3:¬ (x.kind.toNat:Int)=43:=fun e=>hA (.inr (.inr (.inl ((ki Ct).2 e))))
   have a4:¬ (x.kind.toNat:Int)=44:=fun e=>hA (.inr (.inr (.inr (.inl ((ki Ct).2 e)))))
   omega
  have h47:((x.kind.toNat:Int)==47)=false:=kbf (k:=x.kind) (n:=47) Ct (fun e=>hA (.inr (.inr (.inr (.inr e)))));rw [rX9 hA];clear hA;obtain⟨z,hz⟩:∃ z,z=x:=⟨_,rfl⟩;cases hd with
  | true =>
   rw [Bool.not_true,Bool.false_and];clear hx hD hok hB hz;exact zao
  | false =>
   rw [Bu,Bool.true_and];have key:∀ (y:Tr) (ya:Option Addr) (yc:Nat),True:=fun _ _ _=>trivial
   clear key;by_cases h30:x.kind=30
   ·rw [Bb h30];have d30:((x.kind.toNat:Int)==30)=true:=kbt (k:=x.kind) (n:=30) Ct h30;obtain⟨y,r,hyr⟩:∃ y r,x.kids=y::r:=by
     unfold rX2 at hok;rw [Bb (by rw [h30];rfl)] at hok;cases hk:x.kids with
     | nil=>rw [hk] at hok;cases hok
     | cons y r=>exact⟨y,r,rfl⟩
    have hoy:y.kind=29->y.kids≠[]:=by
     intro e he;unfold rX2 at hok;rw [Bb (by rw [h30];rfl),hyr] at hok;simp [e,he] at hok
    rw [hyr]
    show Calls _ _ _ _ (fun e w'=>e=.returned (.bool (plain y))/\Below w.heap.size w w')
    rw [hyr] at hx;obtain⟨b,o,ka,cap,rfl,hb,e0,e1,e2,e3,e4,e5,_⟩:=sX2 hx;have hbl:=hD b hb;replace e0:=aA hB e0;replace e1:=aA hB e1;replace e2:=aA hB e2;replace e3:=aA hB e3;replace e4:=aA hB e4;have i4:(0:Int) < (x.kids.length:Int):=by rw [hyr];simp
    obtain⟨n,hn⟩:∃ n,n=x.kids.length:=⟨_,rfl⟩;have huy:=y.kind.toNat_lt;by_cases hy:y.kind=26
    ·have hT:plain y=true:=by unfold plain;rw [hy];rfl
     rw [hT];have dy:((y.kind.toNat:Int)==26)=true:=kbt (k:=y.kind) (n:=26) Ct hy;clear hx hD hok hB hz hyr h30 hoy hb e5 hT hy hn;exact zav
    ·have dy:((y.kind.toNat:Int)==26)=false:=kbf (k:=y.kind) (n:=26) Ct hy;by_cases hy9:y.kind=29
     ·have dy9:((y.kind.toNat:Int)==29)=true:=kbt (k:=y.kind) (n:=29) Ct hy9;obtain⟨u,q,huq⟩:∃ u q,y.kids=u::q:=by
       cases hk:y.kids with
       | nil=>exact absurd hk (hoy hy9)
       | cons u q=>exact⟨u,q,rfl⟩
      have hT:plain y=(u.kind==26):=by unfold plain;rw [hy9,huq];simp
      rw [hT];rw [huq] at e5;obtain⟨b2,o2,_,_,rfl,hb2,f0,_⟩:=sX2 e5;have hb2l:=hD b2 hb2;have hb2m:b2 < w.heap.size+1:=Cs
      have i5:(0:Int) < (y.kids.length:Int):=by rw [huq];simp
      have huu:=u.kind.toNat_lt;have hne:b2≠w.heap.size:=Cs
      cases hu26:(u.kind==26) with
      | true =>
       have du:((u.kind.toNat:Int)==26)=true:=kbt (k:=u.kind) (n:=26) Ct (B7 hu26);exact ze7
      | false =>
       have du:((u.kind.toNat:Int)==26)=false:=kbf (k:=u.kind) (n:=26) Ct (by simpa using hu26);exact ze7
     ·have dy9:((y.kind.toNat:Int)==29)=false:=kbf (k:=y.kind) (n:=29) Ct hy9;have hT:plain y=false:=by unfold plain;simp [hy,hy9]
      rw [hT];clear hx hD hok hB hz hyr h30 hoy hb e5 hT hy hn hy9;exact zav
   ·rw [Bc h30];have d30:((x.kind.toNat:Int)==30)=false:=kbf (k:=x.kind) (n:=30) Ct h30;have hoy:x.kind=29->x.kids≠[]:=by
     intro e he;unfold rX2 at hok;rw [Bc (by simpa using h30)] at hok;simp [e,he] at hok
    by_cases hy:x.kind=26
    ·have hT:plain x=true:=by unfold plain;rw [hy];rfl
     rw [hT];have dy:((x.kind.toNat:Int)==26)=true:=kbt (k:=x.kind) (n:=26) Ct hy;clear hx hD hok hB hz h30 hoy hT hy;exact zao
    ·have dy:((x.kind.toNat:Int)==26)=false:=kbf (k:=x.kind) (n:=26) Ct hy;by_cases hy9:x.kind=29
     ·have dy9:((x.kind.toNat:Int)==29)=true:=kbt (k:=x.kind) (n:=29) Ct hy9;obtain⟨u,q,huq⟩:∃ u q,x.kids=u::q:=by
       cases hk:x.kids with
       | nil=>exact absurd hk (hoy hy9)
       | cons u q=>exact⟨u,q,rfl⟩
      have hT:plain x=(u.kind==26):=by unfold plain;rw [hy9,huq];simp
      rw [hT];rw [huq] at hx;obtain⟨b2,o2,_,_,rfl,hb2,f0,_⟩:=sX2 hx;have hb2l:=hD b2 hb2;replace f0:=aA hB f0;have i5:(0:Int) < (x.kids.length:Int):=by rw [huq];simp
      have huu:=u.kind.toNat_lt;cases hu26:(u.kind==26) with
      | true =>
       have du:((u.kind.toNat:Int)==26)=true:=kbt (k:=u.kind) (n:=26) Ct (B7 hu26);exact zfb
      | false =>
       have du:((u.kind.toNat:Int)==26)=false:=kbf (k:=u.kind) (n:=26) Ct (by simpa using hu26);exact zfb
     ·have dy9:((x.kind.toNat:Int)==29)=false:=kbf (k:=x.kind) (n:=29) Ct hy9;have hT:plain x=false:=by unfold plain;simp [hy,hy9]
      rw [hT];clear hx hD hok hB hz h30 hoy hT hy hy9;exact zao
end Rf
namespace Rf
open Go.RowKit
theorem NN {E:Ev}{S':RF->St->O Tr}{c:Nat}{s:St}{wz:World}{F:Tr × St}{K:Nat} (HD:Hid (Dr E S')) (h:Pd E c s wz) (hd:Bool) (hK:K<=100000000000) (hF:yX1 E.toEnv K S' hd s=some F) :
  Calls Tryz.prog 137 #[p8 c,.bool hd] wz (Ans E c (fun _=>False) wz F):=by
 have H:=hid (Rx.start (D0:=fun _=>False) (Hd:=[]) h (fun _ h=>h.elim) (fun _ h=>Dd) hF);unfold yX1 at H;have HK:=hid hK;clear h hF hK
 go_in
 have hb_:=fq H;simp only [FB,bX0,Ns] at hb_;go_wp2_with fail
 try clear hb_
 refine nrC fun H=>?_
 try simp only [jZ1] at H
 refine jA HD H (ka:=none) (cap:=0) rfl rfl (.inl rfl) ?_;intro t ka cap s1 w H;have hb_:=fq H;simp only [FB,bX0,Ns] at hb_;go_wp2_with fail
 try clear hb_
 obtain⟨f,Kc,B,hf,hk,hB,H⟩:=lX1 (aE H)
 go_loopg [] K (fun j wr=>iX7 E c (fun _=>False) wz F w.heap.size B f Kc j wr)
 case atStart =>
  exact zee
 case round =>
  clear H;obtain⟨s,t,ka,cap,Hd,H⟩:=hrel;rcases gk with _|gj
  ·exact (CX7 H).elim
  ·replace H:=oZ0 H;rw [hB.out,hf.out,hk.out] at H;cases ho:s.ok with
   | false =>
    have d:¬ bv s.b < 0:=fun e=>Dh
    simp only [ho,Bu,Be,ZQ9,Ba,Bf] at H;clear ho;exact ds
   | true =>
    have d:bv s.b < 0:=MX1.1 Dw;simp only [ho,Bool.not_true,Ba,Bf] at H;clear ho;have hb_:=fq H;simp only [FB,bX0,Ns] at hb_;go_wp2_with fail
    try clear hb_
    refine nrC fun H=>?_
    try simp only [jZ1] at H
    refine kB H (dX0 H.out.pd _ _) ?_;intro w H;cases hn:nx E.toEnv [46] s with
    | true =>
     exact zam
    | false =>
     simp only [hn,Ba,Be,Bf,ZQ9,aX0] at H;have hb_:=fq H;simp only [FB,bX0,Ns] at hb_;go_wp2_with fail
     try clear hb_
     refine nrC fun H=>?_
     try simp only [jZ1] at H
     refine kB H (dX0 H.out.pd _ _) ?_;intro w H;cases hn:nx E.toEnv [40] s with
     | true =>
      exact zam
     | false =>
      simp only [hn,Ba,Be,Bf,ZQ9,aX0] at H;have hb_:=fq H;simp only [FB,bX0,Ns] at hb_;go_wp2_with fail
      try clear hb_
      refine nrC fun H=>?_
      try simp only [jZ1] at H
      refine kB H (dX0 H.out.pd _ _) ?_;intro w H;cases hn:nx E.toEnv [91] s with
      | true =>
       exact zam
      | false =>
       simp only [hn,Ba,Be,Bf,ZQ9,aX0] at H;have hb_:=fq H;simp only [FB,bX0,Ns] at hb_;go_wp2_with fail
       try clear hb_
       refine nrC fun H=>?_
       try simp only [jZ1] at H
       refine kB H (dX0 H.out.pd _ _) ?_;intro w H;cases hn:nx E.toEnv [123] s with
       | true =>
        simp only [hn,Ba,Be,Bf,ZQ9,aX0] at H;have hb_:=fq H;simp only [FB,bX0,Ns] at hb_;go_wp2_with fail
        try clear hb_
        refine nrC fun H=>?_
        try simp only [jZ1] at H
        cases hm:rX2 t with
        | false =>
         simp only [hm,Ba,Bf] at H;exact zen
        | true =>
         simp only [hm,Be] at H;refine kB H (tQ5 t ka cap hd (H.out.hd (t,ka) (Bj ..)) (fun b hb=>hb.2.1) hm) ?_;intro w H;cases hfl:filled hd t with
         | false =>
          simp only [hfl,Ba,Bf,ZQ9] at H;exact ds
         | true =>
          simp only [hfl,Be,aX0] at H;have hb_:=fq H;simp only [FB,bX0,Ns] at hb_;go_wp2_with fail
          try clear hb_
          refine nrC fun H=>?_
          try simp only [jZ1] at H
          refine jA HD H (ka:=none) (cap:=0) rfl rfl (.inl rfl) ?_;intro t ka cap s2 w2 H;have hb_:=fq H;simp only [FB,bX0,Ns] at hb_;go_wp2_with fail
          try clear hb_
          refine nrC fun H=>?_
          try simp only [jZ1] at H
          refine mX3 H dl rfl rfl Di ?_;intro t ka cap s3 w3 H;have hb_:=fq H;simp only [FB,bX0,Ns] at hb_;go_wp2_with fail
          try clear hb_
          go_roundg gj
          case measure=>omega
          case rel =>
           try simp only [ZQ9,aX0,Be] at H
           have H:=pB H;exact zb8
       | false =>
        exact zca
end Rf
