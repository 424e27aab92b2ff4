import Derived.Test.YtjdllofmhglmiaaGreatDoorQBC
namespace Go.Proofs.YtjdllofmhglmiaaGreatDoor
open Lib(hid)
set_option linter.all false
set_option maxHeartbeats 40000000
set_option maxRecDepth 100000
namespace Rf
open Go.RowKit
theorem YW {E:Ev}{S':RF->St->O Tr}{c:Nat}{s:St}{wz:World}{F:Tr × St} (HD:Hid (Dr E S')) (h:Pd E c s wz) (hF:fnM E.toEnv S' s=some F) :
  Calls Tryz.prog 65 #[p8 c] wz (Ans E c (fun _=>False) wz F):=by
 have H:=hid (Rx.start (D0:=fun _=>False) (Hd:=[]) h (fun _ h=>h.elim) (fun _ h=>Dd) hF);unfold fnM at H;clear h hF
 go_in
 have hb_:=fq H;simp only [FB,bX0,Ns] at hb_;go_wp2_with fail
 try clear hb_
 refine nrC fun H=>?_
 try simp only [jZ1] at H
 refine kX0 H ?_;intro s1 w1 H;have hb_:=fq H;simp only [FB,bX0,Ns] at hb_;go_wp2_with fail
 try clear hb_
 refine nrC fun H=>?_
 try simp only [jZ1] at H
 refine IA H ?_;intro w2 H;have hb_:=fq H;simp only [FB,bX0,Ns] at hb_;go_wp2_with fail
 try clear hb_
 refine nrC fun H=>?_
 try simp only [jZ1] at H
 refine kB H (dX0 H.out.pd _ _) ?_;intro w3 H;have hb_:=fq H;simp only [FB,bX0,Ns] at hb_
 go_upto_if 18 with fail
 try clear hb_
 obtain⟨Kc,B,hk,hB,H⟩:=KX7 H
 go_cut [] from 9 (fun wx=>zX6 E c (fun _=>False) wz F w2.heap.size B [] Kc wx)
 case first =>
  cases hn:nx E.toEnv [40] s1 with
  | true =>
   simp only [hn,Ba,Be,Bf,ZQ9,aX0] at H;have hb_:=fq H;simp only [FB,bX0,Ns] at hb_;go_wp2_with fail
   try clear hb_
   refine nrC fun H=>?_
   try simp only [jZ1] at H
   refine jA HD H (ka:=none) (cap:=0) rfl rfl (.inl rfl) ?_;intro t9 ka9 cap9 s9 w9 H;have hb_:=fq H;simp only [FB,bX0,Ns] at hb_;go_wp2_with fail
   try clear hb_
   go_meet
   case rel =>
    exact zco
  | false =>
   simp only [hn,Ba,Be,Bf,ZQ9,aX0] at H;have hb_:=fq H;simp only [FB,bX0,Ns] at hb_;go_wp2_with fail
   try clear hb_
   go_meet
   case rel =>
    exact zco
 case rest =>
  clear H;obtain⟨s,u,ua,uc,H⟩:=hcut;rw [hB.out,hk.out] at H
  dsimp only at H
  have hb_:=fq H;simp only [FB,bX0,Ns] at hb_;go_wp2_with fail
  try clear hb_
  refine nrC fun H=>?_
  try simp only [jZ1] at H
  with_reducible refine lG H ?_
  intro t4 ka4 cap4 s4 w4 H;have hb_:=fq H;simp only [FB,bX0,Ns] at hb_;go_wp2_with fail
  try clear hb_
  refine nrC fun H=>?_
  try simp only [jZ1] at H
  refine IA H ?_;intro w5 H;have hb_:=fq H;simp only [FB,bX0,Ns] at hb_;go_wp2_with fail
  try clear hb_
  refine nrC fun H=>?_
  try simp only [jZ1] at H
  refine kB H (dX0 H.out.pd _ _) ?_;intro w6 H;have hb_:=fq H;simp only [FB,bX0,Ns] at hb_
  go_upto_if 26 with fail
  try clear hb_
  obtain⟨Kc,B,hk,hB,H⟩:=KX7 H
  go_cut [] from 9 (fun wx=>zX6 E c (fun _=>False) wz F w5.heap.size B [(t4,ka4),(u,ua)] Kc wx)
  case first =>
   cases hn:nx E.toEnv [91] s4 with
   | true =>
    simp only [hn,Ba,Be,Bf,ZQ9,aX0] at H;have hb_:=fq H;simp only [FB,bX0,Ns] at hb_;go_wp2_with fail
    try clear hb_
    refine nrC fun H=>?_
    try simp only [jZ1] at H
    refine jA HD H (ka:=none) (cap:=0) rfl rfl (.inl rfl) ?_;intro t9 ka9 cap9 s9 w9 H;have hb_:=fq H;simp only [FB,bX0,Ns] at hb_;go_wp2_with fail
    try clear hb_
    go_meet
    case rel =>
     exact zd9
   | false =>
    simp only [hn,Ba,Be,Bf,ZQ9,aX0] at H;have hb_:=fq H;simp only [FB,bX0,Ns] at hb_;go_wp2_with fail
    try clear hb_
    go_meet
    case rel =>
     exact zd9
  case rest =>
   clear H;obtain⟨s,t,ka,cap,H⟩:=hcut;rw [hB.out,hk.out] at H
   dsimp only at H
   have hb_:=fq H;simp only [FB,bX0,Ns] at hb_;go_wp2_with fail
   try clear hb_
   refine nrC fun H=>?_
   try simp only [jZ1] at H
   refine jA HD H (ka:=none) (cap:=0) rfl rfl (.inl rfl) ?_;intro t7 ka7 cap7 s7 w7 H;have hb_:=fq H;simp only [FB,bX0,Ns] at hb_;go_wp2_with fail
   try clear hb_
   refine nrC fun H=>?_
   try simp only [jZ1] at H
   refine IA H ?_;intro w8 H;have hb_:=fq H;simp only [FB,bX0,Ns] at hb_;go_wp2_with fail
   try clear hb_
   refine nrC fun H=>?_
   try simp only [jZ1] at H
   refine kB H (dX0 H.out.pd _ _) ?_;intro w10 H;have hb_:=fq H;simp only [FB,bX0,Ns] at hb_
   go_upto_if 34 with fail
   try clear hb_
   obtain⟨Kc,B,hk,hB,H⟩:=KX7 H
   go_cut [] from 9 (fun wx=>zX6 E c (fun _=>False) wz F w8.heap.size B [(t7,ka7),(t,ka),(t4,ka4),(u,ua)] Kc wx)
   case first =>
    cases hn:nx E.toEnv [123] s7 with
    | true =>
     simp only [hn,Ba,Be,Bf,ZQ9,aX0] at H;have hb_:=fq H;simp only [FB,bX0,Ns] at hb_;go_wp2_with fail
     try clear hb_
     refine nrC fun H=>?_
     try simp only [jZ1] at H
     refine jA HD H (ka:=none) (cap:=0) rfl rfl (.inl rfl) ?_;intro t9 ka9 cap9 s9 w9 H;have hb_:=fq H;simp only [FB,bX0,Ns] at hb_;go_wp2_with fail
     try clear hb_
     go_meet
     case rel =>
      exact zdq
    | false =>
     simp only [hn,Ba,Be,Bf,ZQ9,aX0] at H;have hb_:=fq H;simp only [FB,bX0,Ns] at hb_;go_wp2_with fail
     try clear hb_
     go_meet
     case rel =>
      exact zdq
   case rest =>
    clear H;obtain⟨s,t,ka,cap,H⟩:=hcut;rw [hB.out,hk.out] at H
    dsimp only at H
    exact ds
end Rf
namespace Rf
open Go.RowKit
section
variable {E:Ev}{S':RF->St->O Tr}{c p1 p2 q:Nat}{D0:Nat->Prop}{w0 w:World}{B:List (Nat × List TK)}{R:Option (Value × List TK)}{Hd:List (Tr × Option Addr)}{s:St}{F:Tr × St}
def iX9 (E:Ev) (c:Nat) (D0:Nat->Prop) (w0:World) (F:Tr × St) (p1 p2:Nat) (B:List (Nat × List TK)) (K:Tr->Tr->Bool->St->O Tr) (sm:Bool) (w:World):Prop :=
 ∃ s a aa ac b ba bc,Hid (Rx E c D0 w0 ((p2,[(b,ba,bc)])::(p1,[(a,aa,ac)])::B) none [(b,ba),(a,aa)] s F (K a b sm s) w)
theorem RX8 {K:Tr->Tr->Bool->St->O Tr}{sm:Bool}{a b:Tr}{aa ba:Option Addr}{ac bc:Nat} (H:Hid (Rx E c D0 w0 ((p2,[(b,ba,bc)])::(p1,[(a,aa,ac)])::B) none Hd s F (K a b sm s) w)) (h:∀ x∈[(b,ba),(a,aa)],x.1.kids=[]∨x∈Hd):iX9 E c D0 w0 F p1 p2 B K sm w:=⟨s,a,aa,ac,b,ba,bc,FX6 H h⟩
theorem FX3 {K:Tr->Tr->Bool->St->O Tr}{sm:Bool}{a b:Tr}{aa ba:Option Addr}{ac bc:Nat}{L:List TK} (H:Hid (Rx E c D0 w0 ((q,L)::(p2,[(b,ba,bc)])::(p1,[(a,aa,ac)])::B) none Hd s F (K a b sm s) w)) (h:∀ x∈[(b,ba),(a,aa)],x.1.kids=[]∨x∈Hd):iX9 E c D0 w0 F p1 p2 B K sm w:=RX8 (pB H) h
end
theorem FM {E:Ev}{S':RF->St->O Tr}{c:Nat}{s:St}{wz:World}{F:Tr × St} (HD:Hid (Dr E S')) (h:Pd E c s wz) (hF:rX1 E.toEnv S' s=some F) :
  Calls Tryz.prog 96 #[p8 c] wz (Ans E c (fun _=>False) wz F):=by
 have H:=hid (Rx.start (D0:=fun _=>False) (Hd:=[]) h (fun _ h=>h.elim) (fun _ h=>Dd) hF);unfold rX1 at H;clear h hF
 go_in
 have hb_:=fq H;simp only [FB,bX0,Ns] at hb_;go_wp2_with fail
 try clear hb_
 refine nrC fun H=>?_
 try simp only [jZ1] at H
 refine kX0 H ?_;intro s1 w1 H;have hb_:=fq H;simp only [FB,bX0,Ns] at hb_;go_wp2_with fail
 try clear hb_
 refine nrC fun H=>?_
 try simp only [jZ1] at H
 refine IA H ?_;intro w2 H;have hb_:=fq H;simp only [FB,bX0,Ns] at hb_;go_wp2_with fail
 try clear hb_
 refine nrC fun H=>?_
 try simp only [jZ1] at H
 refine IA H ?_;intro w3 H;have hb_:=fq H;simp only [FB,bX0,Ns] at hb_;go_wp2_with fail
 try clear hb_
 refine nrC fun H=>?_
 try simp only [jZ1] at H
 refine kB H (dX0 H.out.pd _ _) ?_;intro w4 H;have hb_:=fq H;simp only [FB,bX0,Ns] at hb_
 go_upto_if 25 with fail
 try clear hb_
 go_cut [6] from 13 (fun v6 wx=>∃ sm,v6=.bool sm/\iX9 E c (fun _=>False) wz F w2.heap.size w3.heap.size [(wz.heap.size,[(zT,none,0)])] (fun a b sm s'=>pX2 E.toEnv S' s.n a b sm s') sm wx)
 case first =>
  cases hn:nx E.toEnv [123] s1 with
  | true =>
   simp only [hn,Ba,Be,Bf,ZQ9,aX0] at H;have hb_:=fq H;simp only [FB,bX0,Ns] at hb_;go_wp2_with fail
   try clear hb_
   go_meet
   case rel =>
    refine⟨_,rfl,?_⟩;apply RX8
    ·exact nr
    ·exact zz
  | false =>
   simp only [hn,Ba,Be,Bf,ZQ9,aX0] at H;have hb_:=fq H;simp only [FB,bX0,Ns] at hb_;go_wp2_with fail
   try clear hb_
   refine nrC fun H=>?_
   try simp only [jZ1] at H
   refine kB H (dX0 H.out.pd _ _) ?_;intro w5 H;cases hn2:nx E.toEnv [59] s1 with
   | true =>
    simp only [hn2,Ba,Be,Bf] at H;unfold fX1 at H;have hb_:=fq H;simp only [FB,bX0,Ns] at hb_;go_wp2_with fail
    try clear hb_
    refine nrC fun H=>?_
    try simp only [jZ1] at H
    refine kB H (dX0 H.out.pd _ _) ?_;intro w6 H;exact zaj
   | false =>
    simp only [hn2,Ba,Be,Bf,ZQ9,aX0] at H;have hb_:=fq H;simp only [FB,bX0,Ns] at hb_;go_wp2_with fail
    try clear hb_
    refine nrC fun H=>?_
    try simp only [jZ1] at H
    refine jA HD H (ka:=none) (cap:=0) rfl rfl (.inl rfl) ?_;intro t5 ka5 cap5 s5 w5 H;have hb_:=fq H;simp only [FB,bX0,Ns] at hb_;go_wp2_with fail
    try clear hb_
    refine nrC fun H=>?_
    try simp only [jZ1] at H
    refine kB H (dX0 H.out.pd _ _) ?_;intro w6 H;cases hn2:nx E.toEnv [59] s5 with
    | true =>
     simp only [hn2,Ba,Be,Bf] at H;unfold fX1 at H;exact zaj
    | false =>
     simp only [hn2,Ba,Be,Bf,ZQ9,aX0] at H;have hb_:=fq H;simp only [FB,bX0,Ns] at hb_;go_wp2_with fail
     try clear hb_
     go_meet
     case rel =>
      exact ze2
 case rest =>
  clear H;obtain⟨sm,rfl,s,a,aa,ac,b,ba,bc,H⟩:=hcut
  dsimp only at H
  unfold pX2 at H;cases sm with
  | false =>
   simp only [Ba,Bf] at H;exact ds
  | true =>
   simp only [Be] at H;cases hg:mX1 E.toEnv b with
   | none =>
    rw [hg] at H;exact absurd H.out.eq Cu
   | some g =>
    rw [hg] at H;have hb_:=fq H;simp only [FB,bX0,Ns] at hb_;go_wp2_with fail
    try clear hb_
    refine nrC fun H=>?_
    try simp only [jZ1] at H
    obtain⟨t1,y1,ok,hC,hR⟩:=iX6 b ba bc hg (H.out.hd (b,ba) (Bj ..)) (fun x hx=>hx.2.1);refine hC.mono ?_;rintro e w8 ⟨ka1,ca1,kb1,cb1,rfl,hb8,k1,k2⟩;have H8:=hid (((H.out.have' (t:=t1) k1).have' (t:=y1) (ka:=kb1) (k2.kept (fun _ _=>rfl) (fun _ h=>h))).below hb8);clear hC k1 k2 hb8;have HB:=hid (H.out.hd (b,ba) (Bj ..));clear H;have H:=H8;clear H8;rcases hR with ⟨z,rfl,rfl,h5⟩|⟨rfl,h5⟩
    ·rcases h5 with ⟨h0,rfl⟩|⟨h3,hw,l,b2,q,v,u,hk,hv,hz⟩
     ·have d0:((b.kind.toNat:Int)==50)=true:=kbt (k:=b.kind) (n:=50) Ct h0;have d3:((b.kind.toNat:Int)==53)=false:=kbf (k:=b.kind) (n:=53) Ct G7;clear h0 HB hg
      dsimp only at H
      have hb_:=fq H;simp only [FB,bX0,Ns] at hb_;go_wp2_with fail
      try clear hb_
      clear d0 d3;exact dk
     ·have d0:((b.kind.toNat:Int)==50)=false:=kbf (k:=b.kind) (n:=50) Ct G8;have d3:((b.kind.toNat:Int)==53)=true:=kbt (k:=b.kind) (n:=53) Ct h3;clear h3 HB hg
      dsimp only at H
      have hb_:=fq H;simp only [FB,bX0,Ns] at hb_;go_wp2_with fail
      try clear hb_
      refine nrC fun H=>?_
      try simp only [jZ1] at H
      refine kB H (nX1 H.out.pd _ _ _) ?_;intro w9 H;have hwb:(E.word b.word==[58,61])=true:=by rw [hw];rfl
      have hKb:=H.out.hd (b,ba) mm
      dsimp only at hKb
      rw [hk] at hKb;obtain⟨m0,o0,_,_,rfl,hm0,_,_,_,_,_,_,hr⟩:=sX2 hKb;obtain⟨kb2,cb2,f4,f5⟩:=vX9 hr rfl;rw [hv] at f5;obtain⟨m1,o1,kv,cv,rfl,hm1,_,_,_,_,g4,g5,_⟩:=sX2 f5;rw [hz] at g5;obtain⟨m2,o2,kz,cz,rfl,hm2,z0,z1,z2,z3,z4,z5,_⟩:=sX2 g5;have i1:(1:Int) < (b.kids.length:Int):=by rw [hk];simp;omega
      have i2:(0:Int) < (b2.kids.length:Int):=by rw [hv];simp
      have i3:(0:Int) < (v.kids.length:Int):=by rw [hz];simp
      have H9:=hid (H.out.have' (t:=z) (ka:=kz) z5);clear H hKb hm0 hm1 hm2 hr f5 g5 z5 hw hk hv hz;have H:=H9;clear H9;have hb_:=fq H;simp only [FB,bX0,Ns] at hb_;go_wp2_with fail
      try clear hb_
      clear d0 d3 hwb f4 g4 z0 z1 z2 z3 z4 i1 i2 i3;exact dk
    ·rcases h5 with rfl|⟨rfl,h3,hw⟩
     ·clear HB hg
      dsimp only at H
      have hb_:=fq H;simp only [FB,bX0,Ns] at hb_;go_wp2_with fail
      try clear hb_
      exact dk
     ·have d0:((b.kind.toNat:Int)==50)=false:=kbf (k:=b.kind) (n:=50) Ct G8;clear h3 HB hg
      dsimp only at H
      have hb_:=fq H;simp only [FB,bX0,Ns] at hb_;go_wp2_with fail
      try clear hb_
      refine nrC fun H=>?_
      try simp only [jZ1] at H
      refine kB H (nX1 H.out.pd _ _ _) ?_;intro w9 H;have hwb:(E.word b.word==[58,61])=false:=by simpa using hw
      clear hw;have hb_:=fq H;simp only [FB,bX0,Ns] at hb_;go_wp2_with fail
      try clear hb_
      clear d0 hwb;exact dk
end Rf
namespace Rf
open Go.RowKit
theorem fX3 {E:Ev}{c:Nat}{D0:Nat->Prop}{w0 w:World}{B B':List (Nat × List TK)}{R:Option (Value × List TK)}{Hd:List (Tr × Option Addr)}{s:St}{F:Tr × St}{Q:Ending->World->Prop}{k1:UInt8}{wd:Int}{fr p cap n:Nat}{L:List TK}{ks:List Tr}{K:Tr->St->O Tr}{kv:Int} (H:Hid (Rx E c D0 w0 B R Hd s F (bnd (ret k1 wd fr ks s) K) w)) (hP:Del p L B B') (hks:L.map Prod.fst=ks) (hn:n=ks.length) (hkv:(k1.toNat:Int)=kv)
  (k:∀ t ka cap w',Hid (Rx E c D0 w0 B' R ((t,ka)::Hd) s F (K t s) w')->Q (.returned (tv t ka cap)) w') :
  Calls Tryz.prog 53 #[p8 c,.int .u8 kv,i8 wd,i8 (fr:Int),.slice (some (y8 p 0)) n cap] w Q:=by
 subst hks hn hkv;obtain⟨h1,h2⟩:=H.out.give hP;refine (IX2 H.out.pd k1 wd fr (L.map Prod.fst) (some (y8 p 0)) cap).mono ?_;rintro e w' ⟨rfl,hb⟩;have h3:=(h1.have' (t:=.mk k1 wd fr s.n (L.map Prod.fst)) h2).below hb;have he:=H.out.eq;exact k _ _ cap w' (hid ⟨h3.pd,h3.fr,h3.cw,h3.d0,h3.nd,h3.blk,h3.row,h3.hd,he⟩)
theorem JX0 {E:Ev}{c:Nat}{D0:Nat->Prop}{w0 w:World}{B:List (Nat × List TK)}{R:Option (Value × List TK)}{Hd:List (Tr × Option Addr)}{s:St}{F:Tr × St}{X:O Tr}{p:Nat}{t:Tr}{ka:Option Addr}{cap:Nat} (H:Hid (Rx E c D0 w0 B R Hd s F X w)) (hm:(p,[(t,ka,cap)])∈B) :
  w.cell? (y8 p 0)=some (.int .u8 (t.kind.toNat:Int))/\w.cell? (y8 p 1)=some (i8 t.word)/\w.cell? (y8 p 2)=some (i8 (t.fr:Int))/\w.cell? (y8 p 3)=some (i8 (t.to:Int))/\w.cell? (y8 p 4)=some (.slice ka t.kids.length cap):=by
 obtain⟨a,b,d,e,f,_⟩:=pX0 (H.out.blk _ _ hm).2.1;exact⟨a,b,d,e,f⟩
theorem EX7 {E:Ev}{c:Nat}{D0:Nat->Prop}{w0 w:World}{B:List (Nat × List TK)}{R:Option (Value × List TK)}{Hd:List (Tr × Option Addr)}{s:St}{F:Tr × St}{X:O Tr}{P:Program}{C:Code}{Q:Exit->Act->World->Prop}{a:Act} (h:Hid (Rx E c D0 w0 B R Hd s F X w)) (k:∀ w,Hid (Rx E c D0 w0 B R Hd s F X w)->Code.wp P C Q a w):Code.wp P C Q a w:=k w h
theorem pP {w:World}:Calls Tryz.prog 181 #[] w fun e w'=>e=.returned (.slice (some (y8 w.heap.size 0)) HX0.length HX0.length)/\w'=w.alloc (.cells (aQ1 HX0).toArray 9):=by
 go_in
 exact zaq
theorem PT {E:Ev}{S':RF->St->O Tr}{c:Nat}{s:St}{wz:World}{F:Tr × St}{D0:Nat->Prop} (HD:Hid (Dr E S')) (h:Pd E c s wz) (l:Tr) (la:Option Addr) (lc fr:Nat) (hd:Bool) (hd0:∀ b,D0 b->b≠c/\b < wz.heap.size) (hx:eX0 wz D0 la l.kids) (hF:aX4 E.toEnv S' l fr hd s=some F) :
  Calls Tryz.prog 142 #[p8 c,tv l la lc,i8 (fr:Int),.bool hd] wz (Ans E c D0 wz F):=by
 have H:=hid (Rx.start (D0:=D0) (Hd:=[(l,la)]) h hd0 (fun _ h=>Fx) hF);unfold aX4 at H;have HOL:=hid (show ∀ x∈HX0,x≠[] from Ct);have HON:=hid (show HX0.length<=1000 from Ct);have HOP:=hid (fun w=>pP (w:=w));generalize HX0=ol at H HOP HOL HON;clear h hF hd0 hx
 go_in
 have hc_:=fc H;go_wp2_with fail;clear hc_;apply EX7
 ·exact nr
 intro wr H
 try simp only [jZ1] at H
 have Hw:=yC H;have c4:=(fc Hw).2.1;have c3:=(fc Hw).1;cases ho:s.ok with
 | false =>
  have d:¬ bv s.b < 0:=fun e=>Dh
  have d2:0<=bv s.b:=Cs
  simp only [ho,Bool.false_and,Ba,Bf,Bu,Be] at Hw;clear H ho;refine Ce (S:=fun w'=>w'.cell? (y8 c 4)=some (i8 (bv s.b))) Cw ?_ (fun hHeld=>?_)
  ·exact c4
  refine tn_ 0 ?_;refine tn_ 1 ?_;refine tn_ 2 ?_;refine tn_ 3 ?_;refine tn_ 4 ?_;refine tn_ 5 ?_;refine tm_ 6 ?_;refine tm_ 7 ?_;refine tm_ 8 ?_;refine tm_ 9 ?_;refine tm_ 10 ?_;refine tm_ 11 ?_;refine tm_ 12 ?_;refine tn_ 13 ?_;exact zc3
 | true =>
  have d:bv s.b < 0:=MX1.1 Dw;have d2:¬ 0<=bv s.b:=Cs
  simp only [ho,Bool.true_and,Bool.not_true,Ba,Bf] at Hw;clear H;refine Ce (S:=fun w'=>w'.cell? (y8 c 4)=some (i8 (bv s.b))/\w'.cell? (y8 c 3)=some (i8 (s.n:Int))) Cw ?_ (fun hHeld=>?_)
  ·exact⟨c4,c3⟩
  refine tn_ 0 ?_;refine tn_ 1 ?_;refine tn_ 2 ?_;refine tn_ 3 ?_;refine tn_ 4 ?_;refine tn_ 5 ?_;refine tn_ 6 ?_;refine tn_ 7 ?_;refine tn_ 8 ?_;refine tn_ 9 ?_;refine tn_ 10 ?_;refine Cb (rs:=[11]) Cw Cu (Cc (o:=?_) ?_ (fun Kk hKk=>?_) Cd)
  rotate_left
  ·exact Cf
  go_simp;go_at_call 181;refine (HOP.out _).mono ?_;rintro e w6 ⟨rfl,hw6⟩;have hb6:Below wr.drew.heap.size wr.drew w6:=Iu
  have H6:=hid (Hw.out.below hb6);have hs6:∀ jj x,ol[jj]?=some x->w6.cell? (y8 wr.drew.heap.size jj)=some (.string ⟨x.toArray⟩):=by rw [hw6];exact aX6 _ _ _
  have hz6:wr.drew.heap.size < w6.heap.size:=by rw [hw6];simp
  clear hw6 hb6;have HS6:=hid (Az hs6 hz6);clear hs6 hz6;go_wp2_with fail;refine hKk.out _ _ ?_ (fun hHeld11=>?_)
  ·exact⟨(fc H6).2.1,(fc H6).1⟩
  clear hKk Kk
  try simp only [Act.put,Q',Z',Aa]
  refine Cb (rs:=[12]) Cw Cu (Cc (o:=?_) ?_ (fun Kk hKk=>?_) Cd)
  rotate_left
  ·exact Cf
  go_simp;go_at_call 64;refine (SX2 H6.out.pd _ ol HOL.out _ _ HS6.out.2 HS6.out.1 HON.out).mono ?_;rintro e w7 ⟨rfl,hb7⟩;have H7:=hid (H6.out.below hb7);clear hb7 H6 Hw HS6;go_wp2_with fail;refine hKk.out _ _ ?_ (fun hHeld12=>?_)
  ·exact⟨(fc H7).2.1,(fc H7).1⟩
  clear hKk Kk
  try simp only [Act.put,Q',Z',Aa]
  refine tn_ 13 ?_;refine wpAnyH_done Cw ?_ _;clear hHeld hHeld11 hHeld12 c3 c4;have H:=H7;clear H7;cases ha:am E.toEnv (s.n:Int) ol with
  | true =>
   have HL:=hid (gX7 ha HOL.out);simp only [ha,Be] at H;exact ds
  | false =>
   simp only [ha,Ba,Bf] at H;by_cases hl:l.kids.length=1
   rotate_left
   ·have e1:((l.kids.length:Int) != 1)=true:=by rw [bne_iff_ne];omega
    have H2:Hid (Rx E c D0 wz [(wz.heap.size+1,[(zT,none,0)]),(wz.heap.size,[(l,la,lc)])] none [(l,la)] s F (some (zT,vX0 s)) w7):=hid ⟨H.out.pd,H.out.fr,H.out.cw,H.out.d0,H.out.nd,H.out.blk,H.out.row,H.out.hd,by
     have he:=H.out.eq;rcases hk:l.kids with _|⟨x,_|⟨y,t⟩⟩
     ·rw [hk] at he;exact he
     ·rw [hk] at hl;exact absurd rfl hl
     ·rw [hk] at he;exact he⟩
    clear H;have H:=H2;clear H2 hl ha;exact ds
   ·obtain⟨x,hk⟩:∃ x,l.kids=[x]:=List.length_eq_one_iff.1 hl;have e1:((l.kids.length:Int) != 1)=false:=by rw [hl];rfl
    have i1:(0:Int) < (l.kids.length:Int):=Cs
    rw [hk] at H
    dsimp only at H
    have hKb:=H.out.hd (l,la) mm
    dsimp only at hKb
    rw [hk] at hKb;obtain⟨m0,o0,xa,xc,rfl,hm0,z0,z1,z2,z3,z4,z5,_⟩:=sX2 hKb;have H9:=hid (H.out.have' (t:=x) (ka:=xa) z5);clear H hKb hm0 z5 hk hl ha;have H:=H9;clear H9;have hb_:=fq H;simp only [FB,bX0,Ns] at hb_;go_wp2_with fail
    try clear hb_
    clear e1 i1 z0 z1 z2 z3 z4;refine nrC fun H=>?_
    try simp only [jZ1] at H
    refine kB H (dX0 H.out.pd _ _) ?_;intro w1 H;cases hn:nx E.toEnv [43,43] s with
    | true =>
     simp only [hn,Bool.true_or,Ba,Be,Bf,ZQ9,aX0] at H;have HL:=hid (MX7 hn);exact zac
    | false =>
     simp only [hn,Bool.false_or,Ba,Be,Bf,ZQ9,aX0] at H;have hb_:=fq H;simp only [FB,bX0,Ns] at hb_;go_wp2_with fail
     try clear hb_
     refine nrC fun H=>?_
     try simp only [jZ1] at H
     refine kB H (dX0 H.out.pd _ _) ?_;intro w2 H;cases hn2:nx E.toEnv [45,45] s with
     | true =>
      simp only [hn2,Ba,Be,Bf,ZQ9,aX0] at H;have HL:=hid (MX7 hn2);exact zac
     | false =>
      simp only [hn2,Ba,Be,Bf,ZQ9,aX0] at H;exact ds
end Rf
