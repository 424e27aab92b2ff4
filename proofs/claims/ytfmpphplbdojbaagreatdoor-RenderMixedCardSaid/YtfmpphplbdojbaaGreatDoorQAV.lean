import Derived.Test.YtfmpphplbdojbaaGreatDoorQAU
namespace Go.Proofs.YtfmpphplbdojbaaGreatDoor
open Lib(hid)
set_option linter.all false
set_option maxHeartbeats 40000000
set_option maxRecDepth 100000
section
open Go.RowKit
variable {E:Ev}{S:AB}{c n:Nat}{g:Bool}{w:World}
variable {k:Nat}{w0 w1 w2:World}{p:Nat}{kd:UInt8}{wd:Int}{f t:Nat}{kv v:Value}{ps0:List Nat}{ts0:List Tr}{ps:List Nat}{ts:List Tr}{rs:List Nat}{us:List Tr}{T X:R Tr}
theorem cX {E:Env}{n m:Nat}{u:Tr} (h:LC E n=.ok u m):m=n+1:=by
 unfold LC leaf at h;split at h <;> cases h
 rfl
theorem yX:(Tryz.prog.info? (Tryz.prog.mapElemOf 193)).map (fun i=>i.zero)=some (some .nilFunc):=Ci
theorem vC {r:Nat}{ws:Array UInt8}{a:Option (Nat × Value)} (hb:w.heap[r]?=some (.map XL 15)) (h:Instr.findNow .string (.string ⟨ws⟩) XL.toList 0=some a) :
  Sem.run Tryz.prog (Instr.lookup 193 (.map (some r)) (.string ⟨ws⟩) true) w=.ok (.tuple #[match a with|some x=>x.2|none=>.nilFunc,.bool a.isSome]) w:=by
 obtain⟨iP,hiP,hz⟩:=Option.map_eq_some_iff.1 yX;cases a with
 | some x=>simp [Instr.lookup,run_underlying aM,MapKept.run_getObj_map hb,MapKept.run_checkKey dK (k:=.string ⟨ws⟩) trivial,MapKept.run_findKey dK h,Result.andThen]
 | none=>simp [Instr.lookup,run_underlying aM,MapKept.run_getObj_map hb,MapKept.run_checkKey dK (k:=.string ⟨ws⟩) trivial,MapKept.run_findKey dK h,Result.andThen,zeroValue,typeInfo,hiP,hz]
theorem MM {ws:List UInt8}:∀ (es:List MapEntry) (i:Nat),(∀ e∈es,∃ bs:List UInt8,e.key=.string ⟨bs.toArray⟩/\ws≠bs)->Instr.findNow .string (.string ⟨ws.toArray⟩) es i=some none
 | [],_,_=>rfl
 | e::es,i,h=>by
  obtain⟨bs,h1,h2⟩:=h e Cm;have hne:(({ data:=ws.toArray }:ByteArray)=={ data:=bs.toArray })=false:=by
   show (ws.toArray==bs.toArray)=false
   rw [beq_eq_false_iff_ne];intro e;exact h2 (by simpa using e)
  unfold Instr.findNow;rw [h1];simp only [Instr.sameNow,hne];exact MM es (i+1) (fun e he=>h e (by simp [he]))
theorem YS (H:aB E S) (h:Rd E c n g w) (hr:ZC E.toEnv S n g≠.out) :
  Calls Tryz.prog 154 #[.pointer (some ⟨c,0,none⟩)] w (Ans E c g (ZC E.toEnv S n g) w):=by
 have HD:=hid H;clear H;have H0:=FF (Sx.start h hr rfl) (.map XL 15);have hm0:=heap_alloc_new w (.map XL 15);clear h hr;go_enter Tryz.func154,Tryz.ntmps154;go_wp2_with fail;refine (cQ w).mono ?_;rintro e wm ⟨rfl,rfl⟩;go_wp2_with fail;refine (pE H0.out.rd).mono ?_;rintro e w2 ⟨rfl,hb⟩;have H2:=hid (H0.out.below hb);have hm2:w2.heap[w.heap.size]?=some (.map XL 15):=(hb.block _ Cm).trans hm0;have HM:=hid hm2;clear hb hm0 hm2 H0;by_cases h0:E.word ((n:Nat):Int)=[99,111,110,115,116]
 ·have hl:Sem.run Tryz.prog (Instr.lookup 193 (.map (some w.heap.size)) (.string ⟨(E.word ((n:Nat):Int)).toArray⟩) true) w2=.ok (.tuple #[(.func (.func 219) #[] #[]),.bool true]) w2:=vC (ws:=(E.word ((n:Nat):Int)).toArray) (a:=some (0,(.func (.func 219) #[] #[]))) HM.out (by rw [h0];rfl);have hy:E.is n [99,111,110,115,116]=true:=by show (E.word ((n:Nat):Int)==[99,111,110,115,116])=true;rw [h0];rfl
  have HLT:=hid (gA hy);have H3:Hid (Sx E c n g w _ _ (S.t .declared n g) w2):=Sx.re H2 (by unfold ZC Env.is;rw [h0];rfl);clear H2 hy h0;go_wp2_with fail;refine pC (F:=.declared) H3 HD Ch rfl HLT (fun _ _ h=>⟨rfl,h⟩) ?_;intro q wz HA;clear H3;go_wp2_with fail;go_ret;exact HA.out
 have d0:E.is n [99,111,110,115,116]=false:=by show (E.word ((n:Nat):Int)==[99,111,110,115,116])=false;simpa using h0
 by_cases h1:E.word ((n:Nat):Int)=[118,97,114]
 ·have hl:Sem.run Tryz.prog (Instr.lookup 193 (.map (some w.heap.size)) (.string ⟨(E.word ((n:Nat):Int)).toArray⟩) true) w2=.ok (.tuple #[(.func (.func 219) #[] #[]),.bool true]) w2:=vC (ws:=(E.word ((n:Nat):Int)).toArray) (a:=some (1,(.func (.func 219) #[] #[]))) HM.out (by rw [h1];rfl);have hy:E.is n [118,97,114]=true:=by show (E.word ((n:Nat):Int)==[118,97,114])=true;rw [h1];rfl
  have HLT:=hid (gA hy);have H3:Hid (Sx E c n g w _ _ (S.t .declared n g) w2):=Sx.re H2 (by unfold ZC Env.is;rw [h1];rfl);clear H2 hy h1 d0;go_wp2_with fail;refine pC (F:=.declared) H3 HD Ch rfl HLT (fun _ _ h=>⟨rfl,h⟩) ?_;intro q wz HA;clear H3;go_wp2_with fail;go_ret;exact HA.out
 have d1:E.is n [118,97,114]=false:=by show (E.word ((n:Nat):Int)==[118,97,114])=false;simpa using h1
 by_cases h2:E.word ((n:Nat):Int)=[116,121,112,101]
 ·have hl:Sem.run Tryz.prog (Instr.lookup 193 (.map (some w.heap.size)) (.string ⟨(E.word ((n:Nat):Int)).toArray⟩) true) w2=.ok (.tuple #[(.func (.func 219) #[] #[]),.bool true]) w2:=vC (ws:=(E.word ((n:Nat):Int)).toArray) (a:=some (2,(.func (.func 219) #[] #[]))) HM.out (by rw [h2];rfl);have hy:E.is n [116,121,112,101]=true:=by show (E.word ((n:Nat):Int)==[116,121,112,101])=true;rw [h2];rfl
  have HLT:=hid (gA hy);have H3:Hid (Sx E c n g w _ _ (S.t .declared n g) w2):=Sx.re H2 (by unfold ZC Env.is;rw [h2];rfl);clear H2 hy h2 d0 d1;go_wp2_with fail;refine pC (F:=.declared) H3 HD Ch rfl HLT (fun _ _ h=>⟨rfl,h⟩) ?_;intro q wz HA;clear H3;go_wp2_with fail;go_ret;exact HA.out
 have d2:E.is n [116,121,112,101]=false:=by show (E.word ((n:Nat):Int)==[116,121,112,101])=false;simpa using h2
 by_cases h3:E.word ((n:Nat):Int)=[103,111]
 ·have hl:Sem.run Tryz.prog (Instr.lookup 193 (.map (some w.heap.size)) (.string ⟨(E.word ((n:Nat):Int)).toArray⟩) true) w2=.ok (.tuple #[(.func (.func 220) #[] #[]),.bool true]) w2:=vC (ws:=(E.word ((n:Nat):Int)).toArray) (a:=some (3,(.func (.func 220) #[] #[]))) HM.out Jj;have hy:E.is n [103,111]=true:=by show (E.word ((n:Nat):Int)==[103,111])=true;rw [h3];rfl
  have HLT:=hid (gA hy);have H3:Hid (Sx E c n g w _ _ (S.t .started n g) w2):=Sx.re H2 (by unfold ZC Env.is;rw [h3];rfl);clear H2 hy h3 d0 d1 d2;go_wp2_with fail;refine pC (F:=.started) H3 HD Ch rfl HLT (fun _ _ h=>⟨rfl,h⟩) ?_;intro q wz HA;clear H3;go_wp2_with fail;go_ret;exact HA.out
 have d3:E.is n [103,111]=false:=by show (E.word ((n:Nat):Int)==[103,111])=false;simpa using h3
 by_cases h4:E.word ((n:Nat):Int)=[100,101,102,101,114]
 ·have hl:Sem.run Tryz.prog (Instr.lookup 193 (.map (some w.heap.size)) (.string ⟨(E.word ((n:Nat):Int)).toArray⟩) true) w2=.ok (.tuple #[(.func (.func 220) #[] #[]),.bool true]) w2:=vC (ws:=(E.word ((n:Nat):Int)).toArray) (a:=some (4,(.func (.func 220) #[] #[]))) HM.out (by rw [h4];rfl);have hy:E.is n [100,101,102,101,114]=true:=by show (E.word ((n:Nat):Int)==[100,101,102,101,114])=true;rw [h4];rfl
  have HLT:=hid (gA hy);have H3:Hid (Sx E c n g w _ _ (S.t .started n g) w2):=Sx.re H2 (by unfold ZC Env.is;rw [h4];rfl);clear H2 hy h4 d0 d1 d2 d3;go_wp2_with fail;refine pC (F:=.started) H3 HD Ch rfl HLT (fun _ _ h=>⟨rfl,h⟩) ?_;intro q wz HA;clear H3;go_wp2_with fail;go_ret;exact HA.out
 have d4:E.is n [100,101,102,101,114]=false:=by show (E.word ((n:Nat):Int)==[100,101,102,101,114])=false;simpa using h4
 by_cases h5:E.word ((n:Nat):Int)=[114,101,116,117,114,110]
 ·have hl:Sem.run Tryz.prog (Instr.lookup 193 (.map (some w.heap.size)) (.string ⟨(E.word ((n:Nat):Int)).toArray⟩) true) w2=.ok (.tuple #[(.func (.func 221) #[] #[]),.bool true]) w2:=vC (ws:=(E.word ((n:Nat):Int)).toArray) (a:=some (5,(.func (.func 221) #[] #[]))) HM.out (by rw [h5];rfl);have hy:E.is n [114,101,116,117,114,110]=true:=by show (E.word ((n:Nat):Int)==[114,101,116,117,114,110])=true;rw [h5];rfl
  have HLT:=hid (gA hy);have H3:Hid (Sx E c n g w _ _ (S.t .returned n g) w2):=Sx.re H2 (by unfold ZC Env.is;rw [h5];rfl);clear H2 hy h5 d0 d1 d2 d3 d4;go_wp2_with fail;refine pC (F:=.returned) H3 HD Ch rfl HLT (fun _ _ h=>⟨rfl,h⟩) ?_;intro q wz HA;clear H3;go_wp2_with fail;go_ret;exact HA.out
 have d5:E.is n [114,101,116,117,114,110]=false:=by show (E.word ((n:Nat):Int)==[114,101,116,117,114,110])=false;simpa using h5
 by_cases h6:E.word ((n:Nat):Int)=[98,114,101,97,107]
 ·have hl:Sem.run Tryz.prog (Instr.lookup 193 (.map (some w.heap.size)) (.string ⟨(E.word ((n:Nat):Int)).toArray⟩) true) w2=.ok (.tuple #[(.func (.func 222) #[] #[]),.bool true]) w2:=vC (ws:=(E.word ((n:Nat):Int)).toArray) (a:=some (6,(.func (.func 222) #[] #[]))) HM.out (by rw [h6];rfl);have hy:E.is n [98,114,101,97,107]=true:=by show (E.word ((n:Nat):Int)==[98,114,101,97,107])=true;rw [h6];rfl
  have HLT:=hid (gA hy);have H3:Hid (Sx E c n g w _ _ (S.t .branch n g) w2):=Sx.re H2 (by unfold ZC Env.is;rw [h6];rfl);clear H2 hy h6 d0 d1 d2 d3 d4 d5;go_wp2_with fail;refine pC (F:=.branch) H3 HD Ch rfl HLT (fun _ _ h=>⟨rfl,h⟩) ?_;intro q wz HA;clear H3;go_wp2_with fail;go_ret;exact HA.out
 have d6:E.is n [98,114,101,97,107]=false:=by show (E.word ((n:Nat):Int)==[98,114,101,97,107])=false;simpa using h6
 by_cases h7:E.word ((n:Nat):Int)=[99,111,110,116,105,110,117,101]
 ·have hl:Sem.run Tryz.prog (Instr.lookup 193 (.map (some w.heap.size)) (.string ⟨(E.word ((n:Nat):Int)).toArray⟩) true) w2=.ok (.tuple #[(.func (.func 222) #[] #[]),.bool true]) w2:=vC (ws:=(E.word ((n:Nat):Int)).toArray) (a:=some (7,(.func (.func 222) #[] #[]))) HM.out (by rw [h7];rfl);have hy:E.is n [99,111,110,116,105,110,117,101]=true:=by show (E.word ((n:Nat):Int)==[99,111,110,116,105,110,117,101])=true;rw [h7];rfl
  have HLT:=hid (gA hy);have H3:Hid (Sx E c n g w _ _ (S.t .branch n g) w2):=Sx.re H2 (by unfold ZC Env.is;rw [h7];rfl);clear H2 hy h7 d0 d1 d2 d3 d4 d5 d6;go_wp2_with fail;refine pC (F:=.branch) H3 HD Ch rfl HLT (fun _ _ h=>⟨rfl,h⟩) ?_;intro q wz HA;clear H3;go_wp2_with fail;go_ret;exact HA.out
 have d7:E.is n [99,111,110,116,105,110,117,101]=false:=by show (E.word ((n:Nat):Int)==[99,111,110,116,105,110,117,101])=false;simpa using h7
 by_cases h8:E.word ((n:Nat):Int)=[103,111,116,111]
 ·have hl:Sem.run Tryz.prog (Instr.lookup 193 (.map (some w.heap.size)) (.string ⟨(E.word ((n:Nat):Int)).toArray⟩) true) w2=.ok (.tuple #[(.func (.func 222) #[] #[]),.bool true]) w2:=vC (ws:=(E.word ((n:Nat):Int)).toArray) (a:=some (8,(.func (.func 222) #[] #[]))) HM.out (by rw [h8];rfl);have hy:E.is n [103,111,116,111]=true:=by show (E.word ((n:Nat):Int)==[103,111,116,111])=true;rw [h8];rfl
  have HLT:=hid (gA hy);have H3:Hid (Sx E c n g w _ _ (S.t .branch n g) w2):=Sx.re H2 (by unfold ZC Env.is;rw [h8];rfl);clear H2 hy h8 d0 d1 d2 d3 d4 d5 d6 d7;go_wp2_with fail;refine pC (F:=.branch) H3 HD Ch rfl HLT (fun _ _ h=>⟨rfl,h⟩) ?_;intro q wz HA;clear H3;go_wp2_with fail;go_ret;exact HA.out
 have d8:E.is n [103,111,116,111]=false:=by show (E.word ((n:Nat):Int)==[103,111,116,111])=false;simpa using h8
 by_cases h9:E.word ((n:Nat):Int)=[102,97,108,108,116,104,114,111,117,103,104]
 ·have hl:Sem.run Tryz.prog (Instr.lookup 193 (.map (some w.heap.size)) (.string ⟨(E.word ((n:Nat):Int)).toArray⟩) true) w2=.ok (.tuple #[(.func (.func 222) #[] #[]),.bool true]) w2:=vC (ws:=(E.word ((n:Nat):Int)).toArray) (a:=some (9,(.func (.func 222) #[] #[]))) HM.out (by rw [h9];rfl);have hy:E.is n [102,97,108,108,116,104,114,111,117,103,104]=true:=by show (E.word ((n:Nat):Int)==[102,97,108,108,116,104,114,111,117,103,104])=true;rw [h9];rfl
  have HLT:=hid (gA hy);have H3:Hid (Sx E c n g w _ _ (S.t .branch n g) w2):=Sx.re H2 (by unfold ZC Env.is;rw [h9];rfl);clear H2 hy h9 d0 d1 d2 d3 d4 d5 d6 d7 d8;go_wp2_with fail;refine pC (F:=.branch) H3 HD Ch rfl HLT (fun _ _ h=>⟨rfl,h⟩) ?_;intro q wz HA;clear H3;go_wp2_with fail;go_ret;exact HA.out
 have d9:E.is n [102,97,108,108,116,104,114,111,117,103,104]=false:=by show (E.word ((n:Nat):Int)==[102,97,108,108,116,104,114,111,117,103,104])=false;simpa using h9
 by_cases h10:E.word ((n:Nat):Int)=[123]
 ·have hl:Sem.run Tryz.prog (Instr.lookup 193 (.map (some w.heap.size)) (.string ⟨(E.word ((n:Nat):Int)).toArray⟩) true) w2=.ok (.tuple #[(.func (.func 163) #[] #[]),.bool true]) w2:=vC (ws:=(E.word ((n:Nat):Int)).toArray) (a:=some (10,(.func (.func 163) #[] #[]))) HM.out (by rw [h10];rfl);have hy:E.is n [123]=true:=by show (E.word ((n:Nat):Int)==[123])=true;rw [h10];rfl
  have HLT:=hid (gA hy);have H3:Hid (Sx E c n g w _ _ (S.t .block n g) w2):=Sx.re H2 (by unfold ZC Env.is;rw [h10];rfl);clear H2 hy h10 d0 d1 d2 d3 d4 d5 d6 d7 d8 d9;go_wp2_with fail;refine aE (F:=.block) H3 HD Ch ⟨rfl,rfl⟩ (fun _ _ h=>⟨rfl,h⟩) ?_;intro q wz HA;clear H3;go_wp2_with fail;go_ret;exact HA.out
 have d10:E.is n [123]=false:=by show (E.word ((n:Nat):Int)==[123])=false;simpa using h10
 by_cases h11:E.word ((n:Nat):Int)=[105,102]
 ·have hl:Sem.run Tryz.prog (Instr.lookup 193 (.map (some w.heap.size)) (.string ⟨(E.word ((n:Nat):Int)).toArray⟩) true) w2=.ok (.tuple #[(.func (.func 223) #[] #[]),.bool true]) w2:=vC (ws:=(E.word ((n:Nat):Int)).toArray) (a:=some (11,(.func (.func 223) #[] #[]))) HM.out (by rw [h11];rfl);have hy:E.is n [105,102]=true:=by show (E.word ((n:Nat):Int)==[105,102])=true;rw [h11];rfl
  have HLT:=hid (gA hy);have H3:Hid (Sx E c n g w _ _ (S.t .ifs n g) w2):=Sx.re H2 (by unfold ZC Env.is;rw [h11];rfl);clear H2 hy h11 d0 d1 d2 d3 d4 d5 d6 d7 d8 d9 d10;go_wp2_with fail;refine pC (F:=.ifs) H3 HD Ch rfl HLT (fun _ _ h=>⟨rfl,h⟩) ?_;intro q wz HA;clear H3;go_wp2_with fail;go_ret;exact HA.out
 have d11:E.is n [105,102]=false:=by show (E.word ((n:Nat):Int)==[105,102])=false;simpa using h11
 by_cases h12:E.word ((n:Nat):Int)=[115,119,105,116,99,104]
 ·have hl:Sem.run Tryz.prog (Instr.lookup 193 (.map (some w.heap.size)) (.string ⟨(E.word ((n:Nat):Int)).toArray⟩) true) w2=.ok (.tuple #[(.func (.func 224) #[] #[]),.bool true]) w2:=vC (ws:=(E.word ((n:Nat):Int)).toArray) (a:=some (12,(.func (.func 224) #[] #[]))) HM.out (by rw [h12];rfl);have hy:E.is n [115,119,105,116,99,104]=true:=by show (E.word ((n:Nat):Int)==[115,119,105,116,99,104])=true;rw [h12];rfl
  have HLT:=hid (gA hy);have H3:Hid (Sx E c n g w _ _ (S.t .switches n g) w2):=Sx.re H2 (by unfold ZC Env.is;rw [h12];rfl);clear H2 hy h12 d0 d1 d2 d3 d4 d5 d6 d7 d8 d9 d10 d11;go_wp2_with fail;refine pC (F:=.switches) H3 HD Ch rfl HLT (fun _ _ h=>⟨rfl,h⟩) ?_;intro q wz HA;clear H3;go_wp2_with fail;go_ret;exact HA.out
 have d12:E.is n [115,119,105,116,99,104]=false:=by show (E.word ((n:Nat):Int)==[115,119,105,116,99,104])=false;simpa using h12
 by_cases h13:E.word ((n:Nat):Int)=[115,101,108,101,99,116]
 ·have hl:Sem.run Tryz.prog (Instr.lookup 193 (.map (some w.heap.size)) (.string ⟨(E.word ((n:Nat):Int)).toArray⟩) true) w2=.ok (.tuple #[(.func (.func 225) #[] #[]),.bool true]) w2:=vC (ws:=(E.word ((n:Nat):Int)).toArray) (a:=some (13,(.func (.func 225) #[] #[]))) HM.out (by rw [h13];rfl);have hy:E.is n [115,101,108,101,99,116]=true:=by show (E.word ((n:Nat):Int)==[115,101,108,101,99,116])=true;rw [h13];rfl
  have HLT:=hid (gA hy);have H3:Hid (Sx E c n g w _ _ (S.t .selects n g) w2):=Sx.re H2 (by unfold ZC Env.is;rw [h13];rfl);clear H2 hy h13 d0 d1 d2 d3 d4 d5 d6 d7 d8 d9 d10 d11 d12;go_wp2_with fail;refine pC (F:=.selects) H3 HD Ch rfl HLT (fun _ _ h=>⟨rfl,h⟩) ?_;intro q wz HA;clear H3;go_wp2_with fail;go_ret;exact HA.out
 have d13:E.is n [115,101,108,101,99,116]=false:=by show (E.word ((n:Nat):Int)==[115,101,108,101,99,116])=false;simpa using h13
 by_cases h14:E.word ((n:Nat):Int)=[102,111,114]
 ·have hl:Sem.run Tryz.prog (Instr.lookup 193 (.map (some w.heap.size)) (.string ⟨(E.word ((n:Nat):Int)).toArray⟩) true) w2=.ok (.tuple #[(.func (.func 226) #[] #[]),.bool true]) w2:=vC (ws:=(E.word ((n:Nat):Int)).toArray) (a:=some (14,(.func (.func 226) #[] #[]))) HM.out (by rw [h14];rfl);have hy:E.is n [102,111,114]=true:=by show (E.word ((n:Nat):Int)==[102,111,114])=true;rw [h14];rfl
  have HLT:=hid (gA hy);have H3:Hid (Sx E c n g w _ _ (S.t .fors n g) w2):=Sx.re H2 (by unfold ZC Env.is;rw [h14];rfl);clear H2 hy h14 d0 d1 d2 d3 d4 d5 d6 d7 d8 d9 d10 d11 d12 d13;go_wp2_with fail;refine pC (F:=.fors) H3 HD Ch rfl HLT (fun _ _ h=>⟨rfl,h⟩) ?_;intro q wz HA;clear H3;go_wp2_with fail;go_ret;exact HA.out
 have d14:E.is n [102,111,114]=false:=by show (E.word ((n:Nat):Int)==[102,111,114])=false;simpa using h14
 have hl:Sem.run Tryz.prog (Instr.lookup 193 (.map (some w.heap.size)) (.string ⟨(E.word ((n:Nat):Int)).toArray⟩) true) w2=.ok (.tuple #[.nilFunc,.bool false]) w2:=vC (ws:=(E.word ((n:Nat):Int)).toArray) (a:=none) HM.out (MM _ 0 (by
   intro e he;simp only [XL,List.mem_cons,List.not_mem_nil,or_false] at he;rcases he with rfl|rfl|rfl|rfl|rfl|rfl|rfl|rfl|rfl|rfl|rfl|rfl|rfl|rfl|rfl
   ·exact⟨[99,111,110,115,116],rfl,h0⟩
   ·exact⟨[118,97,114],rfl,h1⟩
   ·exact⟨[116,121,112,101],rfl,h2⟩
   ·exact⟨[103,111],rfl,h3⟩
   ·exact⟨[100,101,102,101,114],rfl,h4⟩
   ·exact⟨[114,101,116,117,114,110],rfl,h5⟩
   ·exact⟨[98,114,101,97,107],rfl,h6⟩
   ·exact⟨[99,111,110,116,105,110,117,101],rfl,h7⟩
   ·exact⟨[103,111,116,111],rfl,h8⟩
   ·exact⟨[102,97,108,108,116,104,114,111,117,103,104],rfl,h9⟩
   ·exact⟨[123],rfl,h10⟩
   ·exact⟨[105,102],rfl,h11⟩
   ·exact⟨[115,119,105,116,99,104],rfl,h12⟩
   ·exact⟨[115,101,108,101,99,116],rfl,h13⟩
   ·exact⟨[102,111,114],rfl,h14⟩))
 conv at H2=>arg 1;arg 8;unfold ZC
 simp only [d0,d1,d2,d3,d4,d5,d6,d7,d8,d9,d10,d11,d12,d13,d14,Bool.or_false,Bool.false_eq_true,if_false] at H2;clear h0 h1 h2 h3 h4 h5 h6 h7 h8 h9 h10 h11 h12 h13 h14 d0 d1 d2 d3 d4 d5 d6 d7 d8 d9 d10 d11 d12 d13 d14;obtain⟨_,_,_,hat2,_⟩:=H2.out.rd.cells;have hsm3:((n:Nat):Int)<=1099511627776:=C8
 go_wp2_with fail;cases h1:E.named ((n:Nat):Int) with
 | true =>
  simp only [h1,bs,reduceCtorEq] at H2;refine RB H2 _ true h1 ?_;intro w4 H5;clear H2 hat2 hsm3;have HYh1:=hid h1;clear h1;obtain⟨_,_,_,hat7,_⟩:=H5.out.rd.cells;have hsm8:((n:Nat):Int)<=1099511627776:=by have:=H5.out.rd.at_;have:=H5.out.rd.lie.small;omega
  go_wp2_with fail;cases h6:E.is (n+1) [58] with
  | true =>
   simp only [h6,bs,reduceCtorEq] at H5;have d10:(E.word (((n:Nat):Int)+1)==[58])=true:=Fa
   refine OA H5 _ ?_;intro w9 H11;clear H5 hat7 hsm8;have HLTh6:Hid (n < E.l.length):=hid (by have:=gA h6;omega);have HYh6:=hid h6;clear h6;go_wp2_with fail;refine yB H11 67 ?_;intro p w12 H13;clear H11;go_wp2_with fail;refine DL H13 (fun _=>yJ H13.out.rd) (fun _ _ h=>⟨rfl,h⟩) ?_;intro q16 t17 n15 w14 HE19 H18;clear H13;have HMn20:=hid (cX HE19.out);clear HE19;obtain⟨_,_,_,hat23,_⟩:=H18.out.rd.cells;have hsm24:((n15:Nat):Int)<=1099511627776:=by have:=H18.out.rd.at_;have:=H18.out.rd.lie.small;omega
   have hfz22:=H18.out.rd.free 3;have H21:=ZA H18 (hid (by have:=gA HYh6.out;have:=HMn20.out;omega));clear H18;obtain⟨n25,hm⟩:∃ m,m=n15+1:=⟨_,rfl⟩;simp only [<- hm] at H21;have HMn25:=hid hm;clear hm;go_wp2_with fail;generalize (w14.setCell ⟨c,3,none⟩ (.int .i64 (((n15:Nat):Int)+1)))=w26 at *;clear hat23 hsm24 hfz22
   try simp only [show (((n15:Nat):Int)+1)=((n25:Nat):Int) from by have:=HMn25.out;omega] at H21
   refine IA H21 49 ?_;intro q28 w27 H29;clear H21;go_wp2_with fail;cases h30:quiet E.toEnv n25 with
   | true =>
    simp only [h30,bs,reduceCtorEq] at H29;refine kB H29 Gf ?_;intro w31 H32;clear H29;have HYh30:=hid h30;clear h30;go_wp2_with fail;refine (eA H32 Cm).mono ?_;rintro e wz ⟨rfl,HA⟩;clear H32;go_wp2_with fail;go_ret;exact HA.out
   | false =>
    simp only [h30,bs,reduceCtorEq] at H29;refine kB H29 Gf ?_;intro w33 H34;clear H29;clear h30;have H35:=pB H34;clear H34;go_wp2_with fail;refine jA (F:=.stmt) H35 HD Ch ⟨rfl,rfl⟩ (fun _ _ h=>⟨rfl,h⟩) ?_;intro q38 t39 n37 w36 H40;clear H35;go_wp2_with fail;refine (eA H40 Cm).mono ?_;rintro e wz ⟨rfl,HA⟩;clear H40;go_wp2_with fail;go_ret;exact HA.out
  | false =>
   simp only [h6,bs,reduceCtorEq] at H5;have d42:(E.word (((n:Nat):Int)+1)==[58])=false:=Fa
   refine OA H5 _ ?_;intro w41 H43;clear H5 hat7 hsm8;clear h6;go_wp2_with fail;refine aE (F:=.simple) H43 HD Ch ⟨rfl,rfl⟩ (fun _ _ h=>⟨rfl,h⟩) ?_;intro q wz HA;clear H43;go_wp2_with fail;go_ret;exact HA.out
 | false =>
  simp only [h1,bs,reduceCtorEq] at H2;refine RB H2 _ false h1 ?_;intro w44 H45;clear H2 hat2 hsm3;clear h1;go_wp2_with fail;refine aE (F:=.simple) H45 HD Ch ⟨rfl,rfl⟩ (fun _ _ h=>⟨rfl,h⟩) ?_;intro q wz HA;clear H45;go_wp2_with fail;go_ret;exact HA.out
end
