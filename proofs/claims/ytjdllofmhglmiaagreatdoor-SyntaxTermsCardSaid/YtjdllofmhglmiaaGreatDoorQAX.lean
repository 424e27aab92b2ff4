import Derived.Test.YtjdllofmhglmiaaGreatDoorQAV
namespace Go.Proofs.YtjdllofmhglmiaaGreatDoor
open Lib(hid)
set_option linter.all false
set_option maxHeartbeats 40000000
set_option maxRecDepth 100000
namespace Rf
open Go.RowKit
theorem uV {E:Ev}{S':RF->St->O Tr}{c:Nat}{s:St}{w:World}{F:Tr × St} (HD:Hid (Dr E S')) (h:Pd E c s w) (hF:IX5 E.toEnv S' s=some F) :
  Calls Tryz.prog 29 #[p8 c] w (Ans E c (fun _=>False) w F):=by
 have H:=hid (Rx.start (D0:=fun _=>False) (Hd:=[]) h (fun _ h=>h.elim) (fun _ h=>Dd) hF);unfold IX5 KX1 at H
 try simp only [zX0,AX0,isE] at H
 clear h hF
 go_in
 exact ds
end Rf
namespace Rf
open Go.RowKit
theorem YS {E:Ev}{S':RF->St->O Tr}{c:Nat}{s:St}{w:World}{F:Tr × St} (HD:Hid (Dr E S')) (h:Pd E c s w) (hF:NX4 E.toEnv S' s=some F) :
  Calls Tryz.prog 60 #[p8 c] w (Ans E c (fun _=>False) w F):=by
 have H:=hid (Rx.start (D0:=fun _=>False) (Hd:=[]) h (fun _ h=>h.elim) (fun _ h=>Dd) hF);unfold NX4 at H
 try simp only [zX0,AX0,isE] at H
 clear h hF;by_cases w0:E.word (s.n:Int)=[99,111,110,115,116]
 ·simp (config:={decide:=true}) only [w0,bs] at H;have HL:=hid (qX0 (wq w0))
  go_in
  have hc_:=fc H;go_wp2_with fail;clear hc_;refine nrC fun H=>?_
  try simp only [jZ1] at H
  refine kB H (text_any H.out.pd _) ?_;intro w H;have hb_:=fq H;simp only [FB,bX0,Ns] at hb_;go_wp2_with fail
  try clear hb_
  clear w0;exact dk
 have w0n:=wn w0;by_cases w1:E.word (s.n:Int)=[118,97,114]
 ·clear w0n w0;simp (config:={decide:=true}) only [w1,bs] at H;have HL:=hid (qX0 (wq w1))
  go_in
  have hc_:=fc H;go_wp2_with fail;clear hc_;refine nrC fun H=>?_
  try simp only [jZ1] at H
  refine kB H (text_any H.out.pd _) ?_;intro w H;have hb_:=fq H;simp only [FB,bX0,Ns] at hb_;go_wp2_with fail
  try clear hb_
  clear w1;exact dk
 have w1n:=wn w1;by_cases w2:E.word (s.n:Int)=[116,121,112,101]
 ·clear w0n w1n w0 w1;simp (config:={decide:=true}) only [w2,bs] at H;have HL:=hid (qX0 (wq w2))
  go_in
  have hc_:=fc H;go_wp2_with fail;clear hc_;refine nrC fun H=>?_
  try simp only [jZ1] at H
  refine kB H (text_any H.out.pd _) ?_;intro w H;have hb_:=fq H;simp only [FB,bX0,Ns] at hb_;go_wp2_with fail
  try clear hb_
  clear w2;exact dk
 have w2n:=wn w2;by_cases w3:E.word (s.n:Int)=[103,111]
 ·clear w0n w1n w2n w0 w1 w2;simp (config:={decide:=true}) only [w3,bs] at H;have HL:=hid (qX0 (wq w3))
  go_in
  have hc_:=fc H;go_wp2_with fail;clear hc_;refine nrC fun H=>?_
  try simp only [jZ1] at H
  refine kB H (text_any H.out.pd _) ?_;intro w H;have hb_:=fq H;simp only [FB,bX0,Ns] at hb_;go_wp2_with fail
  try clear hb_
  clear w3;exact dk
 have w3n:=wn w3;by_cases w4:E.word (s.n:Int)=[100,101,102,101,114]
 ·clear w0n w1n w2n w3n w0 w1 w2 w3;simp (config:={decide:=true}) only [w4,bs] at H;have HL:=hid (qX0 (wq w4))
  go_in
  have hc_:=fc H;go_wp2_with fail;clear hc_;refine nrC fun H=>?_
  try simp only [jZ1] at H
  refine kB H (text_any H.out.pd _) ?_;intro w H;have hb_:=fq H;simp only [FB,bX0,Ns] at hb_;go_wp2_with fail
  try clear hb_
  clear w4;exact dk
 have w4n:=wn w4;by_cases w5:E.word (s.n:Int)=[114,101,116,117,114,110]
 ·clear w0n w1n w2n w3n w4n w0 w1 w2 w3 w4;simp (config:={decide:=true}) only [w5,bs] at H;have HL:=hid (qX0 (wq w5))
  go_in
  have hc_:=fc H;go_wp2_with fail;clear hc_;refine nrC fun H=>?_
  try simp only [jZ1] at H
  refine kB H (text_any H.out.pd _) ?_;intro w H;have hb_:=fq H;simp only [FB,bX0,Ns] at hb_;go_wp2_with fail
  try clear hb_
  clear w5;exact dk
 have w5n:=wn w5;by_cases w6:E.word (s.n:Int)=[98,114,101,97,107]
 ·clear w0n w1n w2n w3n w4n w5n w0 w1 w2 w3 w4 w5;have eg:(([98,114,101,97,107]:List UInt8)==[103,111,116,111])=false:=by decide
  have ef:(([98,114,101,97,107]:List UInt8)==[102,97,108,108,116,104,114,111,117,103,104])=false:=Ct
  simp (config:={decide:=true}) only [w6,eg,ef,bs] at H;have HL:=hid (qX0 (wq w6))
  go_in
  have hc_:=fc H;go_wp2_with fail;clear hc_;refine nrC fun H=>?_
  try simp only [jZ1] at H
  refine kB H (text_any H.out.pd _) ?_;intro w H;have hb_:=fq H;simp only [FB,bX0,Ns] at hb_;go_wp2_with fail
  try clear hb_
  clear w6;exact dk
 have w6n:=wn w6;by_cases w7:E.word (s.n:Int)=[99,111,110,116,105,110,117,101]
 ·clear w0n w1n w2n w3n w4n w5n w6n w0 w1 w2 w3 w4 w5 w6;have eg:(([99,111,110,116,105,110,117,101]:List UInt8)==[103,111,116,111])=false:=by decide
  have ef:(([99,111,110,116,105,110,117,101]:List UInt8)==[102,97,108,108,116,104,114,111,117,103,104])=false:=Ct
  simp (config:={decide:=true}) only [w7,eg,ef,bs] at H;have HL:=hid (qX0 (wq w7))
  go_in
  have hc_:=fc H;go_wp2_with fail;clear hc_;refine nrC fun H=>?_
  try simp only [jZ1] at H
  refine kB H (text_any H.out.pd _) ?_;intro w H;have hb_:=fq H;simp only [FB,bX0,Ns] at hb_;go_wp2_with fail
  try clear hb_
  clear w7;exact dk
 have w7n:=wn w7;by_cases w8:E.word (s.n:Int)=[103,111,116,111]
 ·clear w0n w1n w2n w3n w4n w5n w6n w7n w0 w1 w2 w3 w4 w5 w6 w7;have eg:(([103,111,116,111]:List UInt8)==[103,111,116,111])=true:=by decide
  have ef:(([103,111,116,111]:List UInt8)==[102,97,108,108,116,104,114,111,117,103,104])=false:=Ct
  simp (config:={decide:=true}) only [w8,eg,ef,bs] at H;have HL:=hid (qX0 (wq w8))
  go_in
  have hc_:=fc H;go_wp2_with fail;clear hc_;refine nrC fun H=>?_
  try simp only [jZ1] at H
  refine kB H (text_any H.out.pd _) ?_;intro w H;have hb_:=fq H;simp only [FB,bX0,Ns] at hb_;go_wp2_with fail
  try clear hb_
  clear w8;exact dk
 have w8n:=wn w8;by_cases w9:E.word (s.n:Int)=[102,97,108,108,116,104,114,111,117,103,104]
 ·clear w0n w1n w2n w3n w4n w5n w6n w7n w8n w0 w1 w2 w3 w4 w5 w6 w7 w8;have eg:(([102,97,108,108,116,104,114,111,117,103,104]:List UInt8)==[103,111,116,111])=false:=by decide
  have ef:(([102,97,108,108,116,104,114,111,117,103,104]:List UInt8)==[102,97,108,108,116,104,114,111,117,103,104])=true:=Ct
  simp (config:={decide:=true}) only [w9,eg,ef,bs] at H;have HL:=hid (qX0 (wq w9))
  go_in
  have hc_:=fc H;go_wp2_with fail;clear hc_;refine nrC fun H=>?_
  try simp only [jZ1] at H
  refine kB H (text_any H.out.pd _) ?_;intro w H;have hb_:=fq H;simp only [FB,bX0,Ns] at hb_;go_wp2_with fail
  try clear hb_
  clear w9;exact dk
 have w9n:=wn w9;by_cases w10:E.word (s.n:Int)=[123]
 ·clear w0n w1n w2n w3n w4n w5n w6n w7n w8n w9n w0 w1 w2 w3 w4 w5 w6 w7 w8 w9;simp (config:={decide:=true}) only [w10,bs] at H;have HL:=hid (qX0 (wq w10))
  go_in
  have hc_:=fc H;go_wp2_with fail;clear hc_;refine nrC fun H=>?_
  try simp only [jZ1] at H
  refine kB H (text_any H.out.pd _) ?_;intro w H;have hb_:=fq H;simp only [FB,bX0,Ns] at hb_;go_wp2_with fail
  try clear hb_
  clear w10;exact dk
 have w10n:=wn w10;by_cases w11:E.word (s.n:Int)=[105,102]
 ·clear w0n w1n w2n w3n w4n w5n w6n w7n w8n w9n w10n w0 w1 w2 w3 w4 w5 w6 w7 w8 w9 w10;simp (config:={decide:=true}) only [w11,bs] at H;have HL:=hid (qX0 (wq w11))
  go_in
  have hc_:=fc H;go_wp2_with fail;clear hc_;refine nrC fun H=>?_
  try simp only [jZ1] at H
  refine kB H (text_any H.out.pd _) ?_;intro w H;have hb_:=fq H;simp only [FB,bX0,Ns] at hb_;go_wp2_with fail
  try clear hb_
  clear w11;exact dk
 have w11n:=wn w11;by_cases w12:E.word (s.n:Int)=[115,119,105,116,99,104]
 ·clear w0n w1n w2n w3n w4n w5n w6n w7n w8n w9n w10n w11n w0 w1 w2 w3 w4 w5 w6 w7 w8 w9 w10 w11;simp (config:={decide:=true}) only [w12,bs] at H;have HL:=hid (qX0 (wq w12))
  go_in
  have hc_:=fc H;go_wp2_with fail;clear hc_;refine nrC fun H=>?_
  try simp only [jZ1] at H
  refine kB H (text_any H.out.pd _) ?_;intro w H;have hb_:=fq H;simp only [FB,bX0,Ns] at hb_;go_wp2_with fail
  try clear hb_
  clear w12;exact dk
 have w12n:=wn w12;by_cases w13:E.word (s.n:Int)=[115,101,108,101,99,116]
 ·clear w0n w1n w2n w3n w4n w5n w6n w7n w8n w9n w10n w11n w12n w0 w1 w2 w3 w4 w5 w6 w7 w8 w9 w10 w11 w12;simp (config:={decide:=true}) only [w13,bs] at H;have HL:=hid (qX0 (wq w13))
  go_in
  have hc_:=fc H;go_wp2_with fail;clear hc_;refine nrC fun H=>?_
  try simp only [jZ1] at H
  refine kB H (text_any H.out.pd _) ?_;intro w H;have hb_:=fq H;simp only [FB,bX0,Ns] at hb_;go_wp2_with fail
  try clear hb_
  clear w13;exact dk
 have w13n:=wn w13;by_cases w14:E.word (s.n:Int)=[102,111,114]
 ·clear w0n w1n w2n w3n w4n w5n w6n w7n w8n w9n w10n w11n w12n w13n w0 w1 w2 w3 w4 w5 w6 w7 w8 w9 w10 w11 w12 w13;simp (config:={decide:=true}) only [w14,bs] at H;have HL:=hid (qX0 (wq w14))
  go_in
  have hc_:=fc H;go_wp2_with fail;clear hc_;refine nrC fun H=>?_
  try simp only [jZ1] at H
  refine kB H (text_any H.out.pd _) ?_;intro w H;have hb_:=fq H;simp only [FB,bX0,Ns] at hb_;go_wp2_with fail
  try clear hb_
  clear w14;exact dk
 have w14n:=wn w14;simp (config:={decide:=true}) only [w0n,w1n,w2n,w3n,w4n,w5n,w6n,w7n,w8n,w9n,w10n,w11n,w12n,w13n,w14n,bs] at H
 go_in
 have hc_:=fc H;go_wp2_with fail;clear hc_;refine nrC fun H=>?_
 try simp only [jZ1] at H
 refine kB H (text_any H.out.pd _) ?_;intro w H;have hb_:=fq H;simp only [FB,bX0,Ns] at hb_;go_wp2_with fail
 try clear hb_
 clear w0n w1n w2n w3n w4n w5n w6n w7n w8n w9n w10n w11n w12n w13n w14n w0 w1 w2 w3 w4 w5 w6 w7 w8 w9 w10 w11 w12 w13 w14;exact dk
end Rf
