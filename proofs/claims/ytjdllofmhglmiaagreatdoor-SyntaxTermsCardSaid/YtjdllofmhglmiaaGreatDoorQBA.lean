import Derived.Test.YtjdllofmhglmiaaGreatDoorQAV
namespace Go.Proofs.YtjdllofmhglmiaaGreatDoor
open Lib(hid)
set_option linter.all false
set_option maxHeartbeats 40000000
set_option maxRecDepth 100000
namespace Rf
open Go.RowKit
theorem ZG {E:Ev}{S':RF->St->O Tr}{c:Nat}{s:St}{wz:World}{F:Tr × St}{K:Nat} (HD:Hid (Dr E S')) (h:Pd E c s wz) (hK:K<=100000000000) (hF:EX0 E.toEnv K 10 [44] (DX0 E.toEnv) s=some F) :
  Calls Tryz.prog 135 #[p8 c] wz (Ans E c (fun _=>False) wz F):=by
 have H:=hid (Rx.start (D0:=fun _=>False) (Hd:=[]) h (fun _ h=>h.elim) (fun _ h=>Dd) hF);unfold EX0 at H
 try simp only [zX0,AX0,isE] at H
 have HK:=hid hK;clear h hF hK
 go_in
 have hb_:=fq H;simp only [FB,bX0,Ns] at hb_;go_wp2_with fail
 try clear hb_
 refine nrC fun H=>?_
 try simp only [jZ1] at H
 with_reducible refine lG H ?_
 intro t ka cap s w H;have hb_:=fq H;simp only [FB,bX0,Ns] at hb_;go_wp2_with fail
 try clear hb_
 obtain⟨f,Kc,B,hf,hk,hB,H⟩:=lX1 H
 go_loopg [3] K (fun j v wr=>tL E c (fun _=>False) wz F B f Kc (K+1) j v wr)
 case atStart =>
  exact zay
 case round=>exact lr
theorem AQ {E:Ev}{S':RF->St->O Tr}{c:Nat}{s:St}{wz:World}{F:Tr × St}{K:Nat} (HD:Hid (Dr E S')) (h:Pd E c s wz) (hd:Bool) (hK:K<=100000000000) (hF:EX0 E.toEnv K 11 [44] (S' (.expr hd)) s=some F) :
  Calls Tryz.prog 93 #[p8 c,.bool hd] wz (Ans E c (fun _=>False) wz F):=by
 have H:=hid (Rx.start (D0:=fun _=>False) (Hd:=[]) h (fun _ h=>h.elim) (fun _ h=>Dd) hF);unfold EX0 at H
 try simp only [zX0,AX0,isE] at H
 have HK:=hid hK;clear h hF hK
 go_in
 have hb_:=fq H;simp only [FB,bX0,Ns] at hb_;go_wp2_with fail
 try clear hb_
 refine nrC fun H=>?_
 try simp only [jZ1] at H
 refine jA HD H (ka:=none) (cap:=0) rfl rfl (.inl rfl) ?_;intro t ka cap s w H;have hb_:=fq H;simp only [FB,bX0,Ns] at hb_;go_wp2_with fail
 try clear hb_
 obtain⟨f,Kc,B,hf,hk,hB,H⟩:=lX1 H
 go_loopg [5] K (fun j v wr=>tL E c (fun _=>False) wz F B f Kc (K+1) j v wr)
 case atStart =>
  exact zay
 case round=>exact lr
theorem GQ {E:Ev}{S':RF->St->O Tr}{c:Nat}{s:St}{wz:World}{F:Tr × St}{K:Nat} (HD:Hid (Dr E S')) (h:Pd E c s wz) (hK:K<=100000000000) (hF:EX0 E.toEnv K 18 [124] (GX2 E.toEnv S') s=some F) :
  Calls Tryz.prog 136 #[p8 c] wz (Ans E c (fun _=>False) wz F):=by
 have H:=hid (Rx.start (D0:=fun _=>False) (Hd:=[]) h (fun _ h=>h.elim) (fun _ h=>Dd) hF);unfold EX0 at H
 try simp only [zX0,AX0,isE] at H
 have HK:=hid hK;clear h hF hK
 go_in
 have hb_:=fq H;simp only [FB,bX0,Ns] at hb_;go_wp2_with fail
 try clear hb_
 refine nrC fun H=>?_
 try simp only [jZ1] at H
 refine eX2 H (fun F' hF=>TS HD H.out.pd hF) (fun _ h=>h.elim) ?_;intro t ka cap s w H;have hb_:=fq H;simp only [FB,bX0,Ns] at hb_;go_wp2_with fail
 try clear hb_
 obtain⟨f,Kc,B,hf,hk,hB,H⟩:=lX1 H
 go_loopg [3] K (fun j v wr=>tL E c (fun _=>False) wz F B f Kc (K+1) j v wr)
 case atStart =>
  exact zay
 case round=>exact lr
theorem WP {E:Ev}{S':RF->St->O Tr}{c:Nat}{s:St}{wz:World}{F:Tr × St}{K:Nat} (HD:Hid (Dr E S')) (h:Pd E c s wz) (hK:K<=100000000000) (hF:gX2 E.toEnv K S' s=some F) :
  Calls Tryz.prog 86 #[p8 c] wz (Ans E c (fun _=>False) wz F):=by
 have H:=hid (Rx.start (D0:=fun _=>False) (Hd:=[]) h (fun _ h=>h.elim) (fun _ h=>Dd) hF);unfold gX2 at H
 try simp only [zX0,AX0,isE] at H
 have HK:=hid hK;clear h hF hK
 go_in
 have hb_:=fq H;simp only [FB,bX0,Ns] at hb_;go_wp2_with fail
 try clear hb_
 refine nrC fun H=>?_
 try simp only [jZ1] at H
 refine kX0 H ?_;intro s w H;have hb_:=fq H;simp only [FB,bX0,Ns] at hb_;go_wp2_with fail
 try clear hb_
 obtain⟨f,Kc,B,hf,hk,hB,H⟩:=lX1 H
 go_loopg [4] K (fun j v wr=>tL E c (fun _=>False) wz F B f Kc (K+1) j v wr)
 case atStart =>
  exact zar
 case round=>exact lr
theorem iO {E:Ev}{S':RF->St->O Tr}{c:Nat}{s:St}{wz:World}{F:Tr × St}{K:Nat} (HD:Hid (Dr E S')) (h:Pd E c s wz) (hK:K<=100000000000) (hF:SX1 E.toEnv K S' s=some F) :
  Calls Tryz.prog 102 #[p8 c] wz (Ans E c (fun _=>False) wz F):=by
 have H:=hid (Rx.start (D0:=fun _=>False) (Hd:=[]) h (fun _ h=>h.elim) (fun _ h=>Dd) hF);unfold SX1 mX2 at H
 try simp only [zX0,AX0,isE] at H
 have HK:=hid hK;clear h hF hK
 go_in
 have hb_:=fq H;simp only [FB,bX0,Ns] at hb_;go_wp2_with fail
 try clear hb_
 refine nrC fun H=>?_
 try simp only [jZ1] at H
 refine kX0 H ?_;intro s w H;have hb_:=fq H;simp only [FB,bX0,Ns] at hb_;go_wp2_with fail
 try clear hb_
 obtain⟨f,Kc,B,hf,hk,hB,H⟩:=lX1 H
 go_loopg [4] K (fun j v wr=>tL E c (fun _=>False) wz F B f Kc (K+1) j v wr)
 case atStart =>
  exact zar
 case round =>
  clear H;obtain⟨s,L,Hd,hl,H⟩:=hrel;rcases gk with _|gj
  ·exact (iX2 H).elim
  ·replace H:=it_ H;have HLN:Hid (L.length+gj+1<=K+1/\K<=100000000000):=hid ⟨Cs,HK.out⟩;clear hl;rw [hB.out,hf.out,hk.out] at H;simp only [cX3] at H;obtain⟨la,lc,rfl⟩:=RX9 H;rcases L with _|⟨x0,L0⟩
   ·simp only [List.map_nil,List.isEmpty_nil,Bool.true_or] at H;exact ds
   ·simp only [List.map_cons,List.isEmpty_cons,Bool.false_or] at H;exact ds
theorem WQ {E:Ev}{S':RF->St->O Tr}{c:Nat}{s:St}{wz:World}{F:Tr × St}{K:Nat} (HD:Hid (Dr E S')) (h:Pd E c s wz) (hK:K<=100000000000) (hF:JX3 E.toEnv K S' s=some F) :
  Calls Tryz.prog 31 #[p8 c] wz (Ans E c (fun _=>False) wz F):=by
 have H:=hid (Rx.start (D0:=fun _=>False) (Hd:=[]) h (fun _ h=>h.elim) (fun _ h=>Dd) hF);unfold JX3 at H
 try simp only [zX0,AX0,isE] at H
 have HK:=hid hK;clear h hF hK
 go_in
 have hb_:=fq H;simp only [FB,bX0,Ns] at hb_;go_wp2_with fail
 try clear hb_
 refine nrC fun H=>?_
 try simp only [jZ1] at H
 refine IA H ?_;intro w H;have hb_:=fq H;simp only [FB,bX0,Ns] at hb_;go_wp2_with fail
 try clear hb_
 obtain⟨f,Kc,_,hf,hk,_,H⟩:=lX1 H;obtain⟨B,hB⟩:∃ B,Hid (B=[(w.heap.size,[(vA 0 s.n,none,0)]),(wz.heap.size,[(zT,none,0)])]):=⟨_,hid rfl⟩
 go_loopg [3] K (fun j v wr=>tL E c (fun _=>False) wz F B f Kc (K+1) j v wr)
 case atStart =>
  refine⟨s,[],[(vA 0 s.n,none)],Cu,?_⟩;exact zat
 case round =>
  clear H;obtain⟨s,L,Hd,hl,H⟩:=hrel;rcases gk with _|gj
  ·exact (iX2 H).elim
  ·replace H:=it_ H;have HLN:Hid (L.length+gj+1<=K+1/\K<=100000000000):=hid ⟨Cs,HK.out⟩;clear hl;rw [hB.out,hf.out,hk.out] at H;obtain⟨la,lc,rfl⟩:=RX9 H;rcases L with _|⟨x0,L0⟩
   ·exact ds
   ·exact ds
theorem OQ {E:Ev}{S':RF->St->O Tr}{c:Nat}{s:St}{wz:World}{F:Tr × St}{K:Nat} (HD:Hid (Dr E S')) (h:Pd E c s wz) (hK:K<=100000000000) (hF:KX3 E.toEnv K S' s=some F) :
  Calls Tryz.prog 63 #[p8 c] wz (Ans E c (fun _=>False) wz F):=by
 have H:=hid (Rx.start (D0:=fun _=>False) (Hd:=[]) h (fun _ h=>h.elim) (fun _ h=>Dd) hF);unfold KX3 at H
 try simp only [zX0,AX0,isE] at H
 have HK:=hid hK;clear h hF hK;obtain⟨HL,H⟩:=HZ0 H;cases hn:nx E.toEnv [40] s.up with
 | false =>
  simp only [hn,Ba,Bf] at H
  go_in
  exact ds
 | true =>
  simp only [hn,Be] at H
  go_in
  have hb_:=fq H;simp only [FB,bX0,Ns] at hb_;go_wp2_with fail
  try clear hb_
  refine nrC fun H=>?_
  try simp only [jZ1] at H
  refine kB H (text_any H.out.pd _) ?_;intro w H;have hb_:=fq H;simp only [FB,bX0,Ns] at hb_;go_wp2_with fail
  try clear hb_
  refine nrC fun H=>?_
  try simp only [jZ1] at H
  refine kB H (dX0 H.out.pd _ _) ?_;intro w H;have hb_:=fq H;simp only [FB,bX0,Ns] at hb_;go_wp2_with fail
  try clear hb_
  refine nrC fun H=>?_
  try simp only [jZ1] at H
  refine kX0 H ?_;intro s w H;have hb_:=fq H;simp only [FB,bX0,Ns] at hb_;go_wp2_with fail
  try clear hb_
  obtain⟨f,Kc,B,hf,hk,hB,H⟩:=lX1 H
  go_loopg [6] K (fun j v wr=>tL E c (fun _=>False) wz F B f Kc (K+1) j v wr)
  case atStart =>
   exact zar
  case round=>exact lr
theorem ZN {E:Ev}{S':RF->St->O Tr}{c:Nat}{s:St}{wz:World}{F:Tr × St}{K:Nat} (HD:Hid (Dr E S')) (h:Pd E c s wz) (sort:Nat) (hK:K<=100000000000) (hF:uX1 E.toEnv K S' sort s=some F) :
  Calls Tryz.prog 140 #[p8 c,i8 (sort:Int)] wz (Ans E c (fun _=>False) wz F):=by
 have H:=hid (Rx.start (D0:=fun _=>False) (Hd:=[]) h (fun _ h=>h.elim) (fun _ h=>Dd) hF);unfold uX1 at H
 try simp only [zX0,AX0,isE] at H
 have HK:=hid hK;clear h hF hK;by_cases hs:sort=3
 ·subst hs;simp only [Be] at H
  go_in
  exact zag
 ·have hs2:((sort:Int)==3)=false:=by simp;omega
  simp only [hs,Bf] at H
  go_in
  exact zag
theorem qX4 {E:Ev}{S':RF->St->O Tr}{c:Nat}{s:St}{wz:World}{F:Tr × St}{K:Nat} (HD:Hid (Dr E S')) (h:Pd E c s wz) (sw:List UInt8) (hK:K<=100000000000) (hF:QX1 E.toEnv K S' sw s=some F) :
  Calls Tryz.prog 56 #[p8 c,.string ⟨sw.toArray⟩] wz (Ans E c (fun _=>False) wz F):=by
 have H:=hid (Rx.start (D0:=fun _=>False) (Hd:=[]) h (fun _ h=>h.elim) (fun _ h=>Dd) hF);unfold QX1 at H
 try simp only [zX0,AX0,isE] at H
 have HK:=hid hK;clear h hF hK;by_cases e:sw=[115,116,114,117,99,116]
 ·subst e;simp (config:={decide:=true}) only [beq_self_eq_true,bs] at H
  go_in
  exact zag
 have ns:(sw==[115,116,114,117,99,116])=false:=Fa
 clear e;by_cases e:sw=[105,110,116,101,114,102,97,99,101]
 ·subst e;simp (config:={decide:=true}) only [beq_self_eq_true,bs] at H
  go_in
  exact zag
 have ni:(sw==[105,110,116,101,114,102,97,99,101])=false:=Fa
 clear e;simp (config:={decide:=true}) only [ns,ni,bs] at H
 go_in
 have hb_:=fq H;simp only [FB,bX0,Ns] at hb_;go_wp2_with fail
 try clear hb_
 refine nrC fun H=>?_
 try simp only [jZ1] at H
 refine kX0 H ?_;intro s w H;have hb_:=fq H;simp only [FB,bX0,Ns] at hb_;go_wp2_with fail
 try clear hb_
 obtain⟨f,Kc,B,hf,hk,hB,H⟩:=lX1 H
 go_loopg [5] K (fun j v wr=>tL E c (fun _=>False) wz F B f Kc (K+1) j v wr)
 case atStart =>
  exact zar
 case round=>exact lr
theorem vX5 {E:Ev}{S':RF->St->O Tr}{c:Nat}{s:St}{wz:World}{F:Tr × St}{K:Nat} (HD:Hid (Dr E S')) (h:Pd E c s wz) (sort:Nat) (hK:K<=100000000000) (hF:VX2 E.toEnv K S' sort s=some F) :
  Calls Tryz.prog 180 #[p8 c,i8 (sort:Int)] wz (Ans E c (fun _=>False) wz F):=by
 have H:=hid (Rx.start (D0:=fun _=>False) (Hd:=[]) h (fun _ h=>h.elim) (fun _ h=>Dd) hF);unfold VX2 EX0 at H
 try simp only [zX0,AX0,isE] at H
 have HK:=hid hK;clear h hF hK;by_cases e1:sort=1
 ·subst e1;simp (config:={decide:=true}) only [Be,Bf] at H
  go_in
  exact ds
 by_cases e3:sort=3
 ·subst e3;simp (config:={decide:=true}) only [Be,Bf] at H
  go_in
  exact ds
 simp only [e1,e3,Bf] at H;have d1:((sort:Int)==1)=false:=Cv
 have d3:((sort:Int)==3)=false:=Cv
 go_in
 have hb_:=fq H;simp only [FB,bX0,Ns] at hb_;go_wp2_with fail
 try clear hb_
 refine nrC fun H=>?_
 try simp only [jZ1] at H
 refine jA HD H (ka:=none) (cap:=0) rfl rfl (.inl rfl) ?_;intro t ka cap s w H;have hb_:=fq H;simp only [FB,bX0,Ns] at hb_;go_wp2_with fail
 try clear hb_
 obtain⟨f,Kc,B,hf,hk,hB,H⟩:=lX1 H
 go_loopg [5] K (fun j v wr=>tL E c (fun _=>False) wz F B f Kc (K+1) j v wr)
 case atStart =>
  exact zay
 case round=>exact lr
end Rf
namespace Rf
open Go.RowKit
theorem pX5 {E:Ev}{S':RF->St->O Tr}{c:Nat}{s:St}{wz:World}{F:Tr × St}{K:Nat} (HD:Hid (Dr E S')) (h:Pd E c s wz) (hK:K<=100000000000) (hF:PX2 E.toEnv K S' s=some F) :
  Calls Tryz.prog 49 #[p8 c] wz (Ans E c (fun _=>False) wz F):=by
 have H:=hid (Rx.start (D0:=fun _=>False) (Hd:=[]) h (fun _ h=>h.elim) (fun _ h=>Dd) hF);unfold PX2 cX1 KX1 at H
 try simp only [zX0,AX0,isE] at H
 have HK:=hid hK;clear h hF hK
 go_in
 have hb_:=fq H;simp only [FB,bX0,Ns] at hb_;go_wp2_with fail
 try clear hb_
 refine nrC fun H=>?_
 try simp only [jZ1] at H
 with_reducible refine lG H ?_
 intro t ka cap s w H;have hb_:=fq H;simp only [FB,bX0,Ns] at hb_;go_wp2_with fail
 try clear hb_
 refine nrC fun H=>?_
 try simp only [jZ1] at H
 refine kB H (dX0 H.out.pd _ _) ?_;intro wn H;have hb_:=fq H;simp only [FB,bX0,Ns] at hb_
 go_upto_if 15 with fail
 try clear hb_
 obtain⟨Kc,B,hk,hB,H⟩:=KX7 H
 go_cut [] from 8 (fun wx=>zX6 E c (fun _=>False) wz F w.heap.size B [] Kc wx)
 case first =>
  cases hn:nx E.toEnv [46] s with
  | true =>
   simp only [hn,Ba,Be,Bf,ZQ9,aX0] at H;have hb_:=fq H;simp only [FB,bX0,Ns] at hb_;go_wp2_with fail
   try clear hb_
   refine nrC fun H=>?_
   try simp only [jZ1] at H
   refine kX0 H ?_;intro s1 w1 H;have hb_:=fq H;simp only [FB,bX0,Ns] at hb_;go_wp2_with fail
   try clear hb_
   refine nrC fun H=>?_
   try simp only [jZ1] at H
   with_reducible refine lG H ?_
   intro t1 ka1 cap1 s2 w2 H;have hb_:=fq H;simp only [FB,bX0,Ns] at hb_;go_wp2_with fail
   try clear hb_
   refine nrC fun H=>?_
   try simp only [jZ1] at H
   refine mX3 H (Del.here _) rfl rfl Di ?_;intro t ka cap s w1 H;have hb_:=fq H;simp only [FB,bX0,Ns] at hb_;go_wp2_with fail
   try clear hb_
   replace H:=pB H
   go_meet
   case rel =>
    exact zco
  | false =>
   simp only [hn,Ba,Be,Bf,ZQ9,aX0] at H;have hb_:=fq H;simp only [FB,bX0,Ns] at hb_;go_wp2_with fail
   try clear hb_
   go_meet
   case rel =>
    exact zco
 case rest =>
  clear H;obtain⟨s,u,ua,uc,H⟩:=hcut;rw [hB.out,hk.out] at H
  dsimp only at H
  have hb_:=fq H;simp only [FB,bX0,Ns] at hb_;go_wp2_with fail
  try clear hb_
  refine nrC fun H=>?_
  try simp only [jZ1] at H
  refine kB H (dX0 H.out.pd _ _) ?_;intro wn H;cases hn:nx E.toEnv [91] s with
  | false =>
   exact zca
  | true =>
   simp only [hn,Ba,Be,Bf,ZQ9,aX0] at H;have hb_:=fq H;simp only [FB,bX0,Ns] at hb_;go_wp2_with fail
   try clear hb_
   refine nrC fun H=>?_
   try simp only [jZ1] at H
   refine kX0 H ?_;intro s w H;have hb_:=fq H;simp only [FB,bX0,Ns] at hb_;go_wp2_with fail
   try clear hb_
   refine nrC fun H=>?_
   try simp only [jZ1] at H
   refine jA HD H (ka:=none) (cap:=0) rfl rfl (.inl rfl) ?_;intro t ka cap s w H;have hb_:=fq H;simp only [FB,bX0,Ns] at hb_;go_wp2_with fail
   try clear hb_
   obtain⟨f,Kc,B,hf,hk,hB,H⟩:=lX1 H
   go_loopg [6] K (fun j v wr=>DX4 E c (fun _=>False) wz F B [(u,ua)] f Kc (K+1) j v wr)
   case atStart =>
    refine⟨s,[(t,ka,cap)],Cv,?_⟩;rw [hB.out,hf.out,hk.out];refine FX6 ?_ (Hd:=[(t,ka),(u,ua)]) zz;exact zez
   case round=>exact lrz
theorem lX4 {E:Ev}{S':RF->St->O Tr}{c:Nat}{s:St}{wz:World}{F:Tr × St}{D0:Nat->Prop}{K:Nat} (HD:Hid (Dr E S')) (h:Pd E c s wz) (x:Tr) (xa:Option Addr) (xc:Nat) (fr:Nat) (hK:K<=100000000000) (hd0:∀ b,D0 b->b≠c/\b < wz.heap.size) (hx:eX0 wz D0 xa x.kids) (hF:NX1 E.toEnv K S' x fr s=some F) :
  Calls Tryz.prog 177 #[p8 c,tv x xa xc,i8 (fr:Int)] wz (Ans E c D0 wz F):=by
 have H:=hid (Rx.start (D0:=D0) (Hd:=[(x,xa)]) h hd0 (fun _ h=>Fx) hF);unfold NX1 cX1 KX1 at H
 try simp only [zX0,AX0,isE] at H
 have HK:=hid hK;clear h hF hK hd0 hx
 go_in
 have hb_:=fq H;simp only [FB,bX0,Ns] at hb_;go_wp2_with fail
 try clear hb_
 refine nrC fun H=>?_
 try simp only [jZ1] at H
 refine kX0 H ?_;intro s w H;have hb_:=fq H;simp only [FB,bX0,Ns] at hb_;go_wp2_with fail
 try clear hb_
 refine nrC fun H=>?_
 try simp only [jZ1] at H
 refine IA H ?_;intro w H;have hb_:=fq H;simp only [FB,bX0,Ns] at hb_;go_wp2_with fail
 try clear hb_
 refine nrC fun H=>?_
 try simp only [jZ1] at H
 refine kB H (dX0 H.out.pd _ _) ?_;intro wn H;have hb_:=fq H;simp only [FB,bX0,Ns] at hb_
 go_upto_if 18 with fail
 try clear hb_
 obtain⟨Kc,B,hk,hB,H⟩:=KX7 H
 go_cut [] from 12 (fun wx=>zX6 E c D0 wz F w.heap.size B [(x,xa)] Kc wx)
 case first =>
  cases hn:nx E.toEnv [58] s with
  | true =>
   simp only [hn,Ba,Be,Bf,ZQ9,aX0] at H;have hb_:=fq H;simp only [FB,bX0,Ns] at hb_;go_wp2_with fail
   try clear hb_
   go_meet
   case rel =>
    exact zel
  | false =>
   simp only [hn,Ba,Be,Bf,ZQ9,aX0] at H;have hb_:=fq H;simp only [FB,bX0,Ns] at hb_;go_wp2_with fail
   try clear hb_
   refine nrC fun H=>?_
   try simp only [jZ1] at H
   refine jA HD H (ka:=none) (cap:=0) rfl rfl (.inl rfl) ?_;intro t1 ka1 cap1 s1 w1 H;have hb_:=fq H;simp only [FB,bX0,Ns] at hb_;go_wp2_with fail
   try clear hb_
   go_meet
   case rel =>
    exact zel
 case rest =>
  clear H;obtain⟨s,u,ua,uc,H⟩:=hcut;rw [hB.out,hk.out] at H
  dsimp only at H
  have hb_:=fq H;simp only [FB,bX0,Ns] at hb_;go_wp2_with fail
  try clear hb_
  refine nrC fun H=>?_
  try simp only [jZ1] at H
  refine kB H (dX0 H.out.pd _ _) ?_;intro w H;cases hn:nx E.toEnv [58] s with
  | true =>
   exact zca
  | false =>
   simp only [hn,Ba,Be,Bf,ZQ9,aX0] at H;have hb_:=fq H;simp only [FB,bX0,Ns] at hb_;go_wp2_with fail
   try clear hb_
   obtain⟨f,Kc,B,hf,hk,hB,H⟩:=lX1 H
   go_loopg [10] K (fun j v wr=>DX4 E c D0 wz F B [(x,xa)] f Kc (K+1) j v wr)
   case atStart =>
    refine⟨s,[(u,ua,uc)],Cv,?_⟩;rw [hB.out,hf.out,hk.out];refine FX6 ?_ (Hd:=[(u,ua),(x,xa)]) zz;refine TX3 (p:=w.heap.size) (L:=[(u,ua,uc)]) (Del.here _) ?_ rfl Cu;simp only [List.map_cons,List.map_nil];exact nr
   case round=>exact lrz
end Rf
