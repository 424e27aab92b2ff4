import Derived.Test.YtjdllofmhglmiaaGreatDoorQAV
namespace Go.Proofs.YtjdllofmhglmiaaGreatDoor
open Lib(hid)
set_option linter.all false
set_option maxHeartbeats 40000000
set_option maxRecDepth 100000
namespace Rf
open Go.RowKit
theorem qM {E:Ev}{S':RF->St->O Tr}{c:Nat}{s:St}{w:World}{F:Tr × St} (HD:Hid (Dr E S')) (h:Pd E c s w) (hF:jX2 E.toEnv S' s=some F) :
  Calls Tryz.prog 144 #[p8 c] w (Ans E c (fun _=>False) w F):=by
 have H:=hid (Rx.start (D0:=fun _=>False) (Hd:=[]) h (fun _ h=>h.elim) (fun _ h=>Dd) hF);unfold jX2 iX8 at H
 try simp only [zX0,AX0,isE] at H
 clear h hF
 go_in
 exact ds
theorem kX6 {E:Ev}{S':RF->St->O Tr}{c:Nat}{s:St}{w:World}{F:Tr × St} (HD:Hid (Dr E S')) (h:Pd E c s w) (sw:List UInt8) (hF:ZX1 E.toEnv S' sw s=some F) :
  Calls Tryz.prog 101 #[p8 c,.string ⟨sw.toArray⟩] w (Ans E c (fun _=>False) w F):=by
 have H:=hid (Rx.start (D0:=fun _=>False) (Hd:=[]) h (fun _ h=>h.elim) (fun _ h=>Dd) hF);unfold ZX1 at H
 try simp only [zX0,AX0,isE] at H
 by_cases e:sw=[105,109,112,111,114,116]
 ·subst e;simp (config:={decide:=true}) only [beq_self_eq_true,bs] at H;clear h hF
  go_in
  exact ds
 have ni:(sw==[105,109,112,111,114,116])=false:=Fa
 clear e;by_cases e:sw=[116,121,112,101]
 ·subst e;simp (config:={decide:=true}) only [beq_self_eq_true,bs] at H;clear h hF
  go_in
  have hc_:=fc H;go_wp2_with fail;clear hc_;refine nrC fun H=>?_
  have H:=aE H;go_at_call 144;refine eX2 H (fun F' hF=>qM HD H.out.pd hF) (fun _ h=>h.elim) ?_;intro t ka cap s w H;exact ds
 have nt:(sw==[116,121,112,101])=false:=Fa
 clear e;by_cases e:sw=[99,111,110,115,116]
 ·subst e;simp (config:={decide:=true}) only [beq_self_eq_true,bs] at H;clear h hF
  go_in
  exact ds
 have nc:(sw==[99,111,110,115,116])=false:=Fa
 clear e;simp (config:={decide:=true}) only [ni,nt,nc,bs] at H;clear h hF
 go_in
 exact ds
theorem mM {E:Ev}{S':RF->St->O Tr}{c:Nat}{s:St}{w:World}{F:Tr × St} (HD:Hid (Dr E S')) (h:Pd E c s w) (hF:NX0 E.toEnv S' s=some F) :
  Calls Tryz.prog 55 #[p8 c] w (Ans E c (fun _=>False) w F):=by
 have H:=hid (Rx.start (D0:=fun _=>False) (Hd:=[]) h (fun _ h=>h.elim) (fun _ h=>Dd) hF);unfold NX0 at H
 try simp only [zX0,AX0,isE] at H
 clear h hF
 go_in
 exact ds
theorem mQ {E:Ev}{S':RF->St->O Tr}{c:Nat}{s:St}{w:World}{F:Tr × St} (HD:Hid (Dr E S')) (h:Pd E c s w) (hF:nX3 E.toEnv S' s=some F) :
  Calls Tryz.prog 88 #[p8 c] w (Ans E c (fun _=>False) w F):=by
 have H:=hid (Rx.start (D0:=fun _=>False) (Hd:=[]) h (fun _ h=>h.elim) (fun _ h=>Dd) hF);unfold nX3 jX8 at H
 try simp only [zX0,AX0,isE] at H
 clear h hF
 go_in
 exact ds
theorem bT {E:Ev}{S':RF->St->O Tr}{c:Nat}{s:St}{w:World}{F:Tr × St} (HD:Hid (Dr E S')) (h:Pd E c s w) (hF:OX4 E.toEnv S' s=some F) :
  Calls Tryz.prog 89 #[p8 c] w (Ans E c (fun _=>False) w F):=by
 have H:=hid (Rx.start (D0:=fun _=>False) (Hd:=[]) h (fun _ h=>h.elim) (fun _ h=>Dd) hF);unfold OX4 at H
 try simp only [zX0,AX0,isE] at H
 clear h hF
 go_in
 exact ds
theorem wR {E:Ev}{S':RF->St->O Tr}{c:Nat}{s:St}{w:World}{F:Tr × St} (HD:Hid (Dr E S')) (h:Pd E c s w) (hF:MX3 E.toEnv S' s=some F) :
  Calls Tryz.prog 131 #[p8 c] w (Ans E c (fun _=>False) w F):=by
 have H:=hid (Rx.start (D0:=fun _=>False) (Hd:=[]) h (fun _ h=>h.elim) (fun _ h=>Dd) hF);unfold MX3 FX4 at H
 try simp only [zX0,AX0,isE] at H
 clear h hF
 go_in
 exact ds
theorem kO {E:Ev}{S':RF->St->O Tr}{c:Nat}{s:St}{w:World}{F:Tr × St} (HD:Hid (Dr E S')) (h:Pd E c s w) (hF:sX1 E.toEnv S' s=some F) :
  Calls Tryz.prog 174 #[p8 c] w (Ans E c (fun _=>False) w F):=by
 have H:=hid (Rx.start (D0:=fun _=>False) (Hd:=[]) h (fun _ h=>h.elim) (fun _ h=>Dd) hF);unfold sX1 at H
 try simp only [zX0,AX0,isE] at H
 clear h hF
 go_in
 exact ds
theorem tR {E:Ev}{S':RF->St->O Tr}{c:Nat}{s:St}{w:World}{F:Tr × St} (HD:Hid (Dr E S')) (h:Pd E c s w) (hF:UX2 E.toEnv S' s=some F) :
  Calls Tryz.prog 94 #[p8 c] w (Ans E c (fun _=>False) w F):=by
 have H:=hid (Rx.start (D0:=fun _=>False) (Hd:=[]) h (fun _ h=>h.elim) (fun _ h=>Dd) hF);unfold UX2 at H
 try simp only [zX0,AX0,isE] at H
 clear h hF
 go_in
 exact ds
theorem NR {E:Ev}{S':RF->St->O Tr}{c:Nat}{s:St}{w:World}{F:Tr × St} (HD:Hid (Dr E S')) (h:Pd E c s w) (hF:vX3 E.toEnv S' s=some F) :
  Calls Tryz.prog 216 #[p8 c] w (Ans E c (fun _=>False) w F):=by
 have H:=hid (Rx.start (D0:=fun _=>False) (Hd:=[]) h (fun _ h=>h.elim) (fun _ h=>Dd) hF);unfold vX3 at H
 try simp only [zX0,AX0,isE] at H
 clear h hF
 go_in
 exact ds
theorem jO {E:Ev}{S':RF->St->O Tr}{c:Nat}{s:St}{w:World}{F:Tr × St} (HD:Hid (Dr E S')) (h:Pd E c s w) (hF:UX1 E.toEnv S' s=some F) :
  Calls Tryz.prog 97 #[p8 c] w (Ans E c (fun _=>False) w F):=by
 have H:=hid (Rx.start (D0:=fun _=>False) (Hd:=[]) h (fun _ h=>h.elim) (fun _ h=>Dd) hF);unfold UX1 at H
 try simp only [zX0,AX0,isE] at H
 clear h hF
 go_in
 exact ds
theorem qQ {E:Ev}{S':RF->St->O Tr}{c:Nat}{s:St}{w:World}{F:Tr × St} (HD:Hid (Dr E S')) (h:Pd E c s w) (hd:Bool) (hF:QX2 E.toEnv S' hd s=some F) :
  Calls Tryz.prog 90 #[p8 c,.bool hd] w (Ans E c (fun _=>False) w F):=by
 have H:=hid (Rx.start (D0:=fun _=>False) (Hd:=[]) h (fun _ h=>h.elim) (fun _ h=>Dd) hF);unfold QX2 at H
 try simp only [zX0,AX0,isE] at H
 clear h hF
 go_in
 exact ds
theorem sX3 {E:Ev}{S':RF->St->O Tr}{c:Nat}{s:St}{w:World}{F:Tr × St} (HD:Hid (Dr E S')) (h:Pd E c s w) (fr:Nat) (hF:dX1 E.toEnv S' fr s=some F) :
  Calls Tryz.prog 54 #[p8 c,i8 (fr:Int)] w (Ans E c (fun _=>False) w F):=by
 have H:=hid (Rx.start (D0:=fun _=>False) (Hd:=[]) h (fun _ h=>h.elim) (fun _ h=>Dd) hF);unfold dX1 at H
 try simp only [zX0,AX0,isE] at H
 clear h hF
 go_in
 exact ds
theorem bX5 {E:Ev}{S':RF->St->O Tr}{c:Nat}{s:St}{w:World}{F:Tr × St}{D0:Nat->Prop} (HD:Hid (Dr E S')) (h:Pd E c s w) (x:Tr) (xa:Option Addr) (xc:Nat) (fr:Nat) (hd0:∀ b,D0 b->b≠c/\b < w.heap.size) (hx:eX0 w D0 xa x.kids) (hF:yX2 E.toEnv S' x fr s=some F) :
  Calls Tryz.prog 175 #[p8 c,tv x xa xc,i8 (fr:Int)] w (Ans E c D0 w F):=by
 have H:=hid (Rx.start (D0:=D0) (Hd:=[(x,xa)]) h hd0 (fun _ h=>Fx) hF);unfold yX2 at H
 try simp only [zX0,AX0,isE] at H
 clear h hF hd0 hx
 go_in
 exact ds
theorem dQ {E:Ev}{S':RF->St->O Tr}{c:Nat}{s:St}{w:World}{F:Tr × St} (HD:Hid (Dr E S')) (h:Pd E c s w) (hd:Bool) (hF:(fun s=>bnd (S' (.exprs hd) s) fun l s1=>S' (.rest l s.n hd) s1) s=some F) :
  Calls Tryz.prog 99 #[p8 c,.bool hd] w (Ans E c (fun _=>False) w F):=by
 have H:=hid (Rx.start (D0:=fun _=>False) (Hd:=[]) h (fun _ h=>h.elim) (fun _ h=>Dd) hF);simp only [] at H;clear h hF
 go_in
 exact ds
end Rf
