import Derived.Test.YtjdllofmhglmiaaGreatDoorQAV
namespace Go.Proofs.YtjdllofmhglmiaaGreatDoor
set_option linter.all false
set_option maxHeartbeats 40000000
set_option maxRecDepth 100000
namespace Rf
open Go.RowKit
theorem EV {E:Ev}{S':RF->St->O Tr}{c:Nat}{s:St}{w:World}{F:Tr × St} (HD:Hid (Dr E S')) (h:Pd E c s w) (hF:DX7 E.toEnv S' s=some F) :
  Calls Tryz.prog 95 #[p8 c] w (Ans E c (fun _=>False) w F):=by
 have H:=Lib.hid (Rx.start (D0:=fun _=>False) (Hd:=[]) h (fun _ h=>h.elim) (fun _ h=>Dd) hF);unfold DX7 lX3 at H
 try simp only [zX0,AX0,isE] at H
 clear h hF
 go_in
 exact ds
end Rf
