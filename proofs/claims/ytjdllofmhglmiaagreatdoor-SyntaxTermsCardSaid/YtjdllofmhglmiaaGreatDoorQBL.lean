import Derived.Test.YtjdllofmhglmiaaGreatDoorQBK
namespace Go.Proofs.YtjdllofmhglmiaaGreatDoor
open Lib(hid)
set_option linter.all false
set_option maxHeartbeats 40000000
set_option maxRecDepth 100000
section
open Go.RowKit
variable {E:Ev}{S:AB}{c n:Nat}{g:Bool}{w:World}
set_option maxRecDepth 100000
set_option maxHeartbeats 40000000
theorem fI (h:Rd E c n g w) :
  Calls Tryz.prog 156 #[p8 c] w (xF E c n g (.bool (quiet E.toEnv n)) w):=by
 have H:=Sx.start (T:=bR (quiet E.toEnv n)) h QL rfl
 conv at H=>arg 1;arg 8;unfold quiet
 try simp only [bs,reduceCtorEq] at H
 clear h
 go_in
 exact dr
theorem jK (h:Rd E c n g w) :
  Calls Tryz.prog 160 #[p8 c] w (xF E c n g (.bool (generic E.toEnv n)) w):=by
 have H:=Sx.start (T:=bR (generic E.toEnv n)) h QL rfl
 conv at H=>arg 1;arg 8;unfold generic
 try simp only [bs,reduceCtorEq] at H
 clear h
 go_in
 exact dr
theorem fL (h:Rd E c n g w) (hr:zH E.toEnv n≠.out) :
  Calls Tryz.prog 150 #[p8 c] w (Ans E c g (zH E.toEnv n) w):=by
 have H:=Sx.start h hr rfl
 conv at H=>arg 1;arg 8;unfold zH
 try simp only [bs,reduceCtorEq] at H
 clear h hr
 go_in
 exact dr
theorem bJ (H:aB E S) (h:Rd E c n g w) (hr:mC E.toEnv S true n g≠.out) :
  Calls Tryz.prog 158 #[p8 c,.bool true] w (Ans E c g (mC E.toEnv S true n g) w):=by
 have HD:=hid H;clear H;have H:=Sx.start h hr rfl
 conv at H=>arg 1;arg 8;unfold mC
 try simp only [bs,reduceCtorEq] at H
 clear h hr
 go_in
 exact dr
theorem PJ (H:aB E S) (h:Rd E c n g w) (hr:mC E.toEnv S false n g≠.out) :
  Calls Tryz.prog 158 #[p8 c,.bool false] w (Ans E c g (mC E.toEnv S false n g) w):=by
 have HD:=hid H;clear H;have H:=Sx.start h hr rfl
 conv at H=>arg 1;arg 8;unfold mC
 try simp only [bs,reduceCtorEq] at H
 clear h hr
 go_in
 exact dr
theorem UL (H:aB E S) (h:Rd E c n g w) (hr:IB E.toEnv S n g≠.out) :
  Calls Tryz.prog 121 #[p8 c] w (Ans E c g (IB E.toEnv S n g) w):=by
 have HD:=hid H;clear H;have H:=Sx.start h hr rfl
 conv at H=>arg 1;arg 8;unfold IB
 try simp only [bs,reduceCtorEq] at H
 have KO:Kd 6 6:=rfl;have C1:=@PJ;clear h hr
 go_in
 exact dr
theorem wL (H:aB E S) (h:Rd E c n g w) (hr:LB E.toEnv S n g≠.out) :
  Calls Tryz.prog 123 #[p8 c] w (Ans E c g (LB E.toEnv S n g) w):=by
 have HD:=hid H;clear H;have H:=Sx.start h hr rfl
 conv at H=>arg 1;arg 8;unfold LB
 try simp only [bs,reduceCtorEq] at H
 have KO:Kd 6 6:=rfl;have C1:=@bJ;clear h hr
 go_in
 exact dr
theorem EK (h:Rd E c n g w) (hr:uB E.toEnv n≠.out) :
  Calls Tryz.prog 122 #[p8 c] w (Ans E c g (uB E.toEnv n) w):=by
 have H:=Sx.start h hr rfl
 conv at H=>arg 1;arg 8;unfold uB
 try simp only [bs,reduceCtorEq] at H
 have KO:Kd 5 5:=rfl;clear h hr
 go_in
 exact dr
theorem wM (H:aB E S) (h:Rd E c n g w) (hn:n < E.l.length) (hr:lC S n g≠.out) :
  Calls Tryz.prog 196 #[p8 c] w (Ans E c g (lC S n g) w):=by
 have L:=hid hn;clear hn;have HD:=hid H;clear H;have H:=Sx.start h hr rfl
 conv at H=>arg 1;arg 8;unfold lC
 try simp only [bs,reduceCtorEq] at H
 have KO:Kd 68 68:=rfl;clear h hr
 go_in
 exact dr
theorem rO (H:aB E S) (h:Rd E c n g w) (hn:n < E.l.length) (hr:aD E.toEnv S n g≠.out) :
  Calls Tryz.prog 197 #[p8 c] w (Ans E c g (aD E.toEnv S n g) w):=by
 have L:=hid hn;clear hn;have HD:=hid H;clear H;have H:=Sx.start h hr rfl
 conv at H=>arg 1;arg 8;unfold aD
 try simp only [bs,reduceCtorEq] at H
 have KO:Kd 54 54:=rfl;have K1:Kd 55 55:=rfl;clear h hr
 go_in
 exact dr
theorem DM (H:aB E S) (h:Rd E c n g w) (hn:n < E.l.length) (hr:oC E.toEnv S n g≠.out) :
  Calls Tryz.prog 198 #[p8 c] w (Ans E c g (oC E.toEnv S n g) w):=by
 have L:=hid hn;clear hn;have HD:=hid H;clear H;have H:=Sx.start h hr rfl
 conv at H=>arg 1;arg 8;unfold oC
 try simp only [bs,reduceCtorEq] at H
 have KO:Kd 56 56:=rfl;clear h hr
 go_in
 exact dr
theorem tR (H:aB E S) (h:Rd E c n g w) (hr:EE E.toEnv S n g≠.out) :
  Calls Tryz.prog 128 #[p8 c] w (Ans E c g (EE E.toEnv S n g) w):=by
 have HD:=hid H;clear H;have H:=Sx.start h hr rfl
 conv at H=>arg 1;arg 8;unfold EE
 try simp only [bs,reduceCtorEq] at H
 have KO:Kd 58 58:=rfl;clear h hr
 go_in
 exact dr
theorem bT (H:aB E S) (h:Rd E c n g w) (hr:kG E.toEnv S n g≠.out) :
  Calls Tryz.prog 114 #[p8 c] w (Ans E c g (kG E.toEnv S n g) w):=by
 have HD:=hid H;clear H;have H:=Sx.start h hr rfl
 conv at H=>arg 1;arg 8;unfold kG
 try simp only [bs,reduceCtorEq] at H
 have KO:Kd 24 24:=rfl;clear h hr
 go_in
 exact dr
theorem NR (H:aB E S) (h:Rd E c n g w) (hr:QE E.toEnv S n g≠.out) :
  Calls Tryz.prog 268 #[p8 c] w (Ans E c g (QE E.toEnv S n g) w):=by
 have HD:=hid H;clear H;have H:=Sx.start h hr rfl
 conv at H=>arg 1;arg 8;unfold QE
 try simp only [bs,reduceCtorEq] at H
 have KO:Kd 39 39:=rfl;clear h hr
 go_in
 exact dr
theorem gO (H:aB E S) (h:Rd E c n g w) (hr:QC E.toEnv S n g≠.out) :
  Calls Tryz.prog 236 #[p8 c] w (Ans E c g (QC E.toEnv S n g) w):=by
 have HD:=hid H;clear H;have H:=Sx.start h hr rfl
 conv at H=>arg 1;arg 8;unfold QC
 try simp only [bs,reduceCtorEq] at H
 have KO:Kd 38 38:=rfl;clear h hr
 go_in
 exact dr
theorem YW (H:aB E S) (h:Rd E c n g w) (hr:fnB E.toEnv S n g≠.out) :
  Calls Tryz.prog 79 #[p8 c] w (Ans E c g (fnB E.toEnv S n g) w):=by
 have HD:=hid H;clear H;have H:=Sx.start h hr rfl
 conv at H=>arg 1;arg 8;unfold fnB
 try simp only [bs,reduceCtorEq] at H
 have KO:Kd 8 8:=rfl;clear h hr
 go_in
 exact dr
theorem mM (H:aB E S) (h:Rd E c n g w) (hr:NB E.toEnv S n g≠.out) :
  Calls Tryz.prog 111 #[p8 c] w (Ans E c g (NB E.toEnv S n g) w):=by
 have HD:=hid H;clear H;have H:=Sx.start h hr rfl
 conv at H=>arg 1;arg 8;unfold NB typeNext
 try simp only [bs,reduceCtorEq] at H
 have KO:Kd 9 9:=rfl;clear h hr
 go_in
 exact dr
theorem qM (H:aB E S) (h:Rd E c n g w) (hr:rC E.toEnv S n g≠.out) :
  Calls Tryz.prog 124 #[p8 c] w (Ans E c g (rC E.toEnv S n g) w):=by
 have HD:=hid H;clear H;have H:=Sx.start h hr rfl
 conv at H=>arg 1;arg 8;unfold rC after
 try simp only [bs,reduceCtorEq] at H
 have KO:Kd 7 7:=rfl;clear h hr
 go_in
 exact dr
end
section
open Go.RowKit
variable {E:Ev}{S:AB}{c n:Nat}{g:Bool}{w:World}
variable {k B p q fr t0:Nat}{w0:World}{x:Tr}{kv:Value}
theorem iE (h:Rd E c n g w) (hX:w.cell? (y8 B 0)=some (p8 c)/\c < B) (i:Int) :
  Calls Tryz.prog 186 #[i8 i,p8 B] w (xF E c n g (.bool (rK E.toEnv i)) w):=by
 have H:=Sx.start (T:=bR (rK E.toEnv i)) h QL rfl
 conv at H=>arg 1;arg 8;unfold rK
 have HX:=hid hX;clear hX;clear h
 go_in
 exact dr
theorem dZ1 {i:Int}{b:Bool} (h:Rd E c n g w) (hX:w.cell? (y8 B 0)=some (p8 c)/\c < B) (hb:rK E.toEnv i=b) :
  Calls Tryz.prog 186 #[i8 i,p8 B] w (xF E c n g (.bool b) w):=hb ▸ iE h hX i
theorem cZ1 {i:Int}{b:Bool} (h:Rd E c n g w) (hb:(across E.toEnv i).2=b):Calls Tryz.prog 187 #[p8 c,i8 i] w (xF E c n g (.tuple #[i8 (across E.toEnv i).1,.bool b]) w):=hb ▸ bH h i
theorem xF.behind {v:Value}{w1 w':World}{e:Ending} (h:xF E c n g v w1 e w') (hf:Fr [c] w w1):xF E c n g v w e w':=⟨h.1,h.2.1,hf.trans h.2.2⟩
theorem gZ1 {E:Env}{n:Nat}{ws:List UInt8}{b:Bool} (h:E.is (n+1) ws=b):(E.word ((n:Int)+1)==ws)=b:=h
theorem e0 {P:Prop} (hh:P:=by
 simp only [h1,bl,reduceCtorEq,Be,Bf] at H
 try simp only [h2,h3,bl,reduceCtorEq,Be,Bf] at H
 try simp only [h4,bl,reduceCtorEq,Be,Bf] at H
 try simp only [h5,bl,reduceCtorEq,Be,Bf] at H
 exact dc):P:=hh
theorem rJ (h:Rd E c n g w):Calls Tryz.prog 151 #[p8 c] w (xF E c n g (.bool (embedded E.toEnv n)) w):=by
 have hB:=(N' w.heap.size w).alloc (C' _) (Obj.cells #[p8 c] 47);have hbx:=nE w (p8 c) 47;have HX:=hid (Az hbx h.lt);have HFB:=hid (lA c hB);have H:=Sx.start (T:=bR (embedded E.toEnv n)) (h.below hB) QL rfl
 conv at H=>arg 1;arg 8;unfold embedded
 have hat:=mQ4 H;have hsm:=qQ4 H;have hwr:IntKind.i64.wrap ((n:Int)+1)=(n:Int)+1:=Cy
 have RR:True:=trivial;clear h hB
 go_in
 go_wp2_with fail;generalize w.alloc (.cells #[p8 c] 47)=wB at *;generalize w.heap.size=B at *;cases h1:E.named ((n:Nat):Int)
 ·exact e0
 ·cases h3:rK E.toEnv (((n:Nat):Int)+1)
  ·cases h4:E.is (n+1) [46]
   ·have d4:=gZ1 h4;cases h2:(across E.toEnv (((n:Nat):Int)+1)).2
    ·exact e0
    cases h5:rK E.toEnv (across E.toEnv (((n:Nat):Int)+1)).1 <;> exact e0
   ·have d4:=gZ1 h4;cases h2:(across E.toEnv (((n:Nat):Int)+1)).2 <;> exact e0
  ·cases h2:(across E.toEnv (((n:Nat):Int)+1)).2 <;> exact e0
theorem mQ (H:aB E S) (h:Rd E c n g w) (hr:WE E.toEnv S n g≠.out) :
  Calls Tryz.prog 113 #[p8 c] w (Ans E c g (WE E.toEnv S n g) w):=by
 have HD:=hid H;clear H;have H:=Sx.start h hr rfl
 conv at H=>arg 1;arg 8;unfold WE
 try simp only [bs,reduceCtorEq] at H
 clear h hr;have C1:=fun (_:aB E S)=>@fL E
 have K1:Kd 21 21:=rfl
 go_in
 go_wp2_with fail;refine yB H 22 ?_;intro p w H;go_wp2_with fail;cases h3:E.is n [42] with
 | true =>
  have d4:(E.word (n:Nat)==[42])=true:=h3;simp only [h3,bs,reduceCtorEq] at H;have L:=hid (gA h3);clear h3;refine cA H ?_;intro w H;go_wp2_with fail;have HO:=H;refine TK H 35 ?_;intro p w H;exact dr
 | false =>
  have d4:(E.word (n:Nat)==[42])=false:=h3;simp only [h3,bs,reduceCtorEq] at H;clear h3;refine cA H ?_;intro w H;go_wp2_with fail;clear d4;refine kB H (rJ H.out.rd) ?_;intro w H;cases h36:embedded E.toEnv n
  all_goals
   simp only [h36,bs,reduceCtorEq] at H;exact dr
end
