import Derived.Test.YtjdllofmhglmiaaGreatDoorQBM
namespace Go.Proofs.YtjdllofmhglmiaaGreatDoor
open Lib(hid)
set_option linter.all false
set_option maxHeartbeats 40000000
set_option maxRecDepth 100000
section
open Go.RowKit
variable {E:Ev}{S:AB}{c n:Nat}{g:Bool}{w:World}
variable {k:Nat}{w0 w1 w2:World}{p:Nat}{kd:UInt8}{wd:Int}{f t:Nat}{kv v:Value}{ps0:List Nat}{ts0:List Tr}{ps:List Nat}{ts:List Tr}{rs:List Nat}{us:List Tr}{T X:R Tr}
theorem fZ1 {q:Nat}{u:Tr}{Q:Ending->World->Prop} (h:Hid (Sx E c n g w0 (Nd E c w1 p kd wd f t kv ps0 ts0 ps ts) T X w)) (ht:nA w (ndD w1 p kv w) q u) (hs:Hid (Sh u))
  (h1:∀ w',asked E.toEnv u=none->Hid (Sx E c n g w0 (Nd E c w1 p kd wd f t kv ps0 ts0 ps ts) T X w')->Q (.returned (.tuple #[.pointer none,.pointer none])) w')
  (h2:∀ a y pa py w',asked E.toEnv u=some (a,y)->Hid (Sx E c n g w0 (Nd E c w1 p kd wd f t kv ps0 ts0 (ps++[pa,py]) (ts++[a,y])) T X w')->Q (.returned (.tuple #[p8 pa,p8 py])) w') :
  Calls Tryz.prog 240 #[p8 c,p8 q] w Q:=by
 refine (WM h.out.rd (fun b hb=>hb.2.1) ht hs.out).mono ?_;rintro e w' ⟨hb,hA⟩;have hh:=h.out.below hb;cases ha:asked E.toEnv u with
 | none=>rw [ha] at hA;subst hA;exact h1 w' ha hh
 | some ay =>
  rw [ha] at hA;obtain⟨pa,py,rfl,k1,k2⟩:=hA;have hd:∀ b,(ndD w1 p kv w b∨within w.heap.size w'.heap.size b)->ndD w1 p kv w' b:=fun b hb'=>hb'.elim (ndD.later hb.size b) (h.out.ex.apart (C' _) b)
  exact h2 _ _ pa py w' ha (hh.with ⟨hh.ex.fr,hh.ex.cw,hh.ex.opn,hh.ex.old,fA.append hh.ex.kids ⟨nA.kept (fun _ _=>rfl) hd pa _ k1,nA.kept (fun _ _=>rfl) hd py _ k2,trivial⟩,hh.ex.z⟩ Nd.later)
theorem FM (H:aB E S) (hso:SOk E.toEnv S) (h:Rd E c n g w) (hn:n < E.l.length) (hr:qC E.toEnv S n g≠.out) :
  Calls Tryz.prog 201 #[p8 c] w (Ans E c g (qC E.toEnv S n g) w):=by
 have L:=hid hn;clear hn;have HD:=hid H;clear H;have H:=Sx.start h hr rfl
 conv at H=>arg 1;arg 8;unfold qC nB qB
 try simp only [show n+2=n+1+1 from rfl,bs,reduceCtorEq] at H
 have HSO:=hid hso;clear hso;have KO:Kd 60 60:=rfl;have K1:Kd 61 61:=rfl;clear h hr
 go_in
 exact dr
end
section
open Go.RowKit
variable {E:Ev}{S:AB}{c n k:Nat}{g:Bool}{w w0 w1 w2:World}
theorem aM:Tryz.prog.underlying 127=some (.map (Tryz.prog.mapKeyOf 127) (Tryz.prog.mapElemOf 127)):=Cw
theorem dK:Tryz.prog.underlying (Tryz.prog.mapKeyOf 127)=some .string:=Cw
theorem zD {es:Array MapEntry}{clk:Nat}{s:Array UInt8}{v:Value} (h1:Instr.findNow .string (.string ⟨s⟩) es.toList 0=some none) :
  Sem.run Tryz.prog (Instr.mapUpdate 127 (.map (some w.heap.size)) (.string ⟨s⟩) v) (w.alloc (.map es clk))=.ok () (w.alloc (.map (es.push ⟨.string ⟨s⟩,v,clk⟩) (clk+1))):=by
 have hb:(w.alloc (.map es clk)).heap[w.heap.size]?=some (.map es clk):=B8 w _;simp [Instr.mapUpdate,run_underlying aM,MapKept.run_getObj_map hb,MapKept.run_checkKey dK (k:=.string ⟨s⟩) trivial,MapKept.run_findKey dK h1,MapKept.run_setObj_map _ hb,Result.andThen];have e:(w.alloc (.map es clk)).heap.setIfInBounds w.heap.size (.map (es.push ⟨.string ⟨s⟩,v,clk⟩) (clk+1))=w.heap.push (.map (es.push ⟨.string ⟨s⟩,v,clk⟩) (clk+1)):=by
  show (w.heap.push _).setIfInBounds _ _=_
  apply Array.ext';rw [Array.toList_setIfInBounds,Array.toList_push,Array.toList_push,List.set_append_right _ _ Cu];simp
 rw [e]
 rfl
abbrev XZ0 (s:List UInt8) (f:FuncId) (j:Nat):MapEntry:=⟨.string ⟨s.toArray⟩,.func (.func f) #[] #[],j⟩
def XL:Array MapEntry:=#[XZ0 [99,111,110,115,116] 196 0,XZ0 [118,97,114] 196 1,XZ0 [116,121,112,101] 196 2,XZ0 [103,111] 197 3,XZ0 [100,101,102,101,114] 197 4,XZ0 [114,101,116,117,114,110] 198 5,XZ0 [98,114,101,97,107] 199 6,XZ0 [99,111,110,116,105,110,117,101] 199 7,XZ0 [103,111,116,111] 199 8,XZ0 [102,97,108,108,116,104,114,111,117,103,104] 199 9,XZ0 [123] 128 10,XZ0 [105,102] 200 11,XZ0 [115,119,105,116,99,104] 201 12,XZ0 [115,101,108,101,99,116] 202 13,XZ0 [102,111,114] 203 14]
abbrev MI (w:World) (s:List UInt8) (f:FuncId) (es:List MapEntry) (j:Nat) (e:MapEntry) (es1:List MapEntry):Prop:=Sem.run Tryz.prog (Instr.mapUpdate 127 (.map (some w.heap.size)) (.string ⟨s.toArray⟩) (.func (.func f) #[] #[])) (w.alloc (.map es.toArray j))=.ok () (w.alloc (.map es1.toArray (j+1)))
theorem cQ (w:World):Calls Tryz.prog 155 #[] w fun e w'=>e=.returned (.map (some w.heap.size))/\w'=w.alloc (.map XL 15):=by
 have hmm:=@run_makeMap Tryz.prog;obtain⟨e0,q0⟩:∃ e:MapEntry,e=XL[0]' Ct:=⟨_,rfl⟩;obtain⟨e1,q1⟩:∃ e:MapEntry,e=XL[1]' Ct:=⟨_,rfl⟩;obtain⟨e2,q2⟩:∃ e:MapEntry,e=XL[2]' Ct:=⟨_,rfl⟩;obtain⟨e3,q3⟩:∃ e:MapEntry,e=XL[3]' Ct:=⟨_,rfl⟩;obtain⟨e4,q4⟩:∃ e:MapEntry,e=XL[4]' Ct:=⟨_,rfl⟩;obtain⟨e5,q5⟩:∃ e:MapEntry,e=XL[5]' Ct:=⟨_,rfl⟩;obtain⟨e6,q6⟩:∃ e:MapEntry,e=XL[6]' Ct:=⟨_,rfl⟩;obtain⟨e7,q7⟩:∃ e:MapEntry,e=XL[7]' Ct:=⟨_,rfl⟩;obtain⟨e8,q8⟩:∃ e:MapEntry,e=XL[8]' Ct:=⟨_,rfl⟩;obtain⟨e9,q9⟩:∃ e:MapEntry,e=XL[9]' Ct:=⟨_,rfl⟩;obtain⟨e10,q10⟩:∃ e:MapEntry,e=XL[10]' Ct:=⟨_,rfl⟩;obtain⟨e11,q11⟩:∃ e:MapEntry,e=XL[11]' Ct:=⟨_,rfl⟩;obtain⟨e12,q12⟩:∃ e:MapEntry,e=XL[12]' Ct:=⟨_,rfl⟩;obtain⟨e13,q13⟩:∃ e:MapEntry,e=XL[13]' Ct:=⟨_,rfl⟩;obtain⟨e14,q14⟩:∃ e:MapEntry,e=XL[14]' Ct:=⟨_,rfl⟩;have h0:MI w [99,111,110,115,116] 196 [] 0 e0 [e0]:=by rw [q0];exact zD Db
 have h1:MI w [118,97,114] 196 [e0] 1 e1 [e0,e1]:=by rw [q0,q1];exact zD Db
 have h2:MI w [116,121,112,101] 196 [e0,e1] 2 e2 [e0,e1,e2]:=by rw [q0,q1,q2];exact zD Db
 have h3:MI w [103,111] 197 [e0,e1,e2] 3 e3 [e0,e1,e2,e3]:=by rw [q0,q1,q2,q3];exact zD Db
 have h4:MI w [100,101,102,101,114] 197 [e0,e1,e2,e3] 4 e4 [e0,e1,e2,e3,e4]:=by rw [q0,q1,q2,q3,q4];exact zD Db
 have h5:MI w [114,101,116,117,114,110] 198 [e0,e1,e2,e3,e4] 5 e5 [e0,e1,e2,e3,e4,e5]:=by rw [q0,q1,q2,q3,q4,q5];exact zD Db
 have h6:MI w [98,114,101,97,107] 199 [e0,e1,e2,e3,e4,e5] 6 e6 [e0,e1,e2,e3,e4,e5,e6]:=by rw [q0,q1,q2,q3,q4,q5,q6];exact zD Db
 have h7:MI w [99,111,110,116,105,110,117,101] 199 [e0,e1,e2,e3,e4,e5,e6] 7 e7 [e0,e1,e2,e3,e4,e5,e6,e7]:=by rw [q0,q1,q2,q3,q4,q5,q6,q7];exact zD Db
 have h8:MI w [103,111,116,111] 199 [e0,e1,e2,e3,e4,e5,e6,e7] 8 e8 [e0,e1,e2,e3,e4,e5,e6,e7,e8]:=by rw [q0,q1,q2,q3,q4,q5,q6,q7,q8];exact zD Db
 have h9:MI w [102,97,108,108,116,104,114,111,117,103,104] 199 [e0,e1,e2,e3,e4,e5,e6,e7,e8] 9 e9 [e0,e1,e2,e3,e4,e5,e6,e7,e8,e9]:=by rw [q0,q1,q2,q3,q4,q5,q6,q7,q8,q9];exact zD Db
 have h10:MI w [123] 128 [e0,e1,e2,e3,e4,e5,e6,e7,e8,e9] 10 e10 [e0,e1,e2,e3,e4,e5,e6,e7,e8,e9,e10]:=by rw [q0,q1,q2,q3,q4,q5,q6,q7,q8,q9,q10];exact zD Db
 have h11:MI w [105,102] 200 [e0,e1,e2,e3,e4,e5,e6,e7,e8,e9,e10] 11 e11 [e0,e1,e2,e3,e4,e5,e6,e7,e8,e9,e10,e11]:=by rw [q0,q1,q2,q3,q4,q5,q6,q7,q8,q9,q10,q11];exact zD Db
 have h12:MI w [115,119,105,116,99,104] 201 [e0,e1,e2,e3,e4,e5,e6,e7,e8,e9,e10,e11] 12 e12 [e0,e1,e2,e3,e4,e5,e6,e7,e8,e9,e10,e11,e12]:=by rw [q0,q1,q2,q3,q4,q5,q6,q7,q8,q9,q10,q11,q12];exact zD Db
 have h13:MI w [115,101,108,101,99,116] 202 [e0,e1,e2,e3,e4,e5,e6,e7,e8,e9,e10,e11,e12] 13 e13 [e0,e1,e2,e3,e4,e5,e6,e7,e8,e9,e10,e11,e12,e13]:=by rw [q0,q1,q2,q3,q4,q5,q6,q7,q8,q9,q10,q11,q12,q13];exact zD Db
 have h14:MI w [102,111,114] 203 [e0,e1,e2,e3,e4,e5,e6,e7,e8,e9,e10,e11,e12,e13] 14 e14 [e0,e1,e2,e3,e4,e5,e6,e7,e8,e9,e10,e11,e12,e13,e14]:=by rw [q0,q1,q2,q3,q4,q5,q6,q7,q8,q9,q10,q11,q12,q13,q14];exact zD Db
 have H:=hid (show XL=#[e0,e1,e2,e3,e4,e5,e6,e7,e8,e9,e10,e11,e12,e13,e14] from by rw [q0,q1,q2,q3,q4,q5,q6,q7,q8,q9,q10,q11,q12,q13,q14];rfl);clear q0 q1 q2 q3 q4 q5 q6 q7 q8 q9 q10 q11 q12 q13 q14
 go_in
 go_wp2_with fail;go_ret;exact⟨rfl,by rw [H.out]⟩
end
section
open Go.RowKit
variable {E:Ev}{S:AB}{c n:Nat}{g:Bool}{w:World}
variable {k:Nat}{w0 w1 w2:World}{p:Nat}{kd:UInt8}{wd:Int}{f t:Nat}{kv v:Value}{ps0:List Nat}{ts0:List Tr}{ps:List Nat}{ts:List Tr}{rs:List Nat}{us:List Tr}{T X:R Tr}
theorem cX {E:Env}{n m:Nat}{u:Tr} (h:LC E n=.ok u m):m=n+1:=by
 unfold LC leaf at h;split at h <;> cases h
 rfl
theorem yX:(Tryz.prog.info? (Tryz.prog.mapElemOf 127)).map (fun i=>i.zero)=some (some .nilFunc):=Cw
theorem vC {r:Nat}{ws:Array UInt8}{a:Option (Nat × Value)} (hb:w.heap[r]?=some (.map XL 15)) (h:Instr.findNow .string (.string ⟨ws⟩) XL.toList 0=some a) :
  Sem.run Tryz.prog (Instr.lookup 127 (.map (some r)) (.string ⟨ws⟩) true) w=.ok (.tuple #[match a with|some x=>x.2|none=>.nilFunc,.bool a.isSome]) w:=by
 obtain⟨iP,hiP,hz⟩:=Option.map_eq_some_iff.1 yX;cases a with
 | some x=>simp [Instr.lookup,run_underlying aM,MapKept.run_getObj_map hb,MapKept.run_checkKey dK (k:=.string ⟨ws⟩) trivial,MapKept.run_findKey dK h,Result.andThen]
 | none=>simp [Instr.lookup,run_underlying aM,MapKept.run_getObj_map hb,MapKept.run_checkKey dK (k:=.string ⟨ws⟩) trivial,MapKept.run_findKey dK h,Result.andThen,zeroValue,typeInfo,hiP,hz]
theorem MM {ws:List UInt8}:∀ (es:List MapEntry) (i:Nat),(∀ e∈es,∃ bs:List UInt8,e.key=.string ⟨bs.toArray⟩/\ws≠bs)->Instr.findNow .string (.string ⟨ws.toArray⟩) es i=some none
 | [],_,_=>rfl
 | e::es,i,h=>by
  obtain⟨bs,h1,h2⟩:=h e Cu;have hne:(({ data:=ws.toArray }:ByteArray)=={ data:=bs.toArray })=false:=by
   show (ws.toArray==bs.toArray)=false
   rw [Bi];intro e;exact h2 Fa
  unfold Instr.findNow;rw [h1];simp only [Instr.sameNow,hne];exact MM es (i+1) (fun e he=>h e (by simp [he]))
theorem bZ1 {r i:Nat}{ws W:List UInt8}{f:FuncId} (hb:w.heap[r]?=some (.map XL 15)) (hw:W=ws) (h:Instr.findNow .string (.string ⟨ws.toArray⟩) XL.toList 0=some (some (i,.func (.func f) #[] #[]))) :
  Sem.run Tryz.prog (Instr.lookup 127 (.map (some r)) (.string ⟨W.toArray⟩) true) w=.ok (.tuple #[.func (.func f) #[] #[],.bool true]) w:=by
 subst hw;exact vC (a:=some (i,_)) hb h
theorem eZ1 {n m:Nat}{u:Tr} (h:LC E.toEnv n=.ok u m) (hn:n+1 < E.l.length):m < E.l.length:=by rw [cX h];exact hn
theorem hZ1 {ws:List UInt8} (h:E.word ((n:Nat):Int)=ws):E.is n ws=true:=by show (E.word ((n:Nat):Int)==ws)=true;rw [h];exact beq_self_eq_true _
theorem ky {P:Prop} (hh:P:=by
 have hl:=bZ1 HM.out h rfl;have L:=hid (gA (hZ1 h));have H:=Sx.re H (by unfold ZC Env.is;rw [h]);simp (config:={decide:=true}) only [bs,reduceCtorEq] at H;clear h;go_wp2_with fail;exact dc):P:=hh
theorem YS (H:aB E S) (h:Rd E c n g w) (hr:ZC E.toEnv S n g≠.out) :
  Calls Tryz.prog 119 #[p8 c] w (Ans E c g (ZC E.toEnv S n g) w):=by
 have HD:=hid H;clear H;have H:=FF (Sx.start h hr rfl) (.map XL 15);have hm0:=B8 w (.map XL 15);clear h hr
 go_in
 go_wp2_with fail;refine (cQ w).mono ?_;rintro e wm ⟨rfl,rfl⟩;go_wp2_with fail;refine (pE H.out.rd).mono ?_;rintro e w2 ⟨rfl,hb⟩;have H:=hid (H.out.below hb);have hm2:w2.heap[w.heap.size]?=some (.map XL 15):=(hb.block _ Cu).trans hm0;have HM:=hid hm2;clear hb hm0 hm2;by_cases h:E.word ((n:Nat):Int)=[99,111,110,115,116]
 ·exact ky
 by_cases h:E.word ((n:Nat):Int)=[118,97,114]
 ·exact ky
 by_cases h:E.word ((n:Nat):Int)=[116,121,112,101]
 ·exact ky
 by_cases h:E.word ((n:Nat):Int)=[103,111]
 ·exact ky
 by_cases h:E.word ((n:Nat):Int)=[100,101,102,101,114]
 ·exact ky
 by_cases h:E.word ((n:Nat):Int)=[114,101,116,117,114,110]
 ·exact ky
 by_cases h:E.word ((n:Nat):Int)=[98,114,101,97,107]
 ·exact ky
 by_cases h:E.word ((n:Nat):Int)=[99,111,110,116,105,110,117,101]
 ·exact ky
 by_cases h:E.word ((n:Nat):Int)=[103,111,116,111]
 ·exact ky
 by_cases h:E.word ((n:Nat):Int)=[102,97,108,108,116,104,114,111,117,103,104]
 ·exact ky
 by_cases h:E.word ((n:Nat):Int)=[123]
 ·exact ky
 by_cases h:E.word ((n:Nat):Int)=[105,102]
 ·exact ky
 by_cases h:E.word ((n:Nat):Int)=[115,119,105,116,99,104]
 ·exact ky
 by_cases h:E.word ((n:Nat):Int)=[115,101,108,101,99,116]
 ·exact ky
 by_cases h:E.word ((n:Nat):Int)=[102,111,114]
 ·exact ky
 have hl:Sem.run Tryz.prog (Instr.lookup 127 (.map (some w.heap.size)) (.string ⟨(E.word ((n:Nat):Int)).toArray⟩) true) w2=.ok (.tuple #[.nilFunc,.bool false]) w2:=vC (ws:=(E.word ((n:Nat):Int)).toArray) (a:=none) HM.out (MM _ 0 (by
   intro e he;simp only [XL,XZ0,List.mem_cons,List.not_mem_nil,or_false] at he;rcases he with rfl|rfl|rfl|rfl|rfl|rfl|rfl|rfl|rfl|rfl|rfl|rfl|rfl|rfl|rfl
   all_goals exact⟨_,rfl,Dt⟩))
 conv at H=>arg 1;arg 8;unfold ZC
 repeat (with_reducible rename ¬(Env.word _ _=_)=>h_;have d_:=cQ4 (kQ4 h_);(try simp only [d_,bs,reduceCtorEq] at H);clear d_ h_)
 have KO:Kd 67 67:=rfl;have hat_:=mQ4 H;have hsm_:=qQ4 H;go_wp2_with fail;clear hat_ hsm_;cases h1:E.named ((n:Nat):Int) with
 | true =>
  simp only [h1,bs,reduceCtorEq] at H;refine RB H _ true h1 ?_;intro w H;clear h1;have hat_:=mQ4 H;have hsm_:=qQ4 H;go_wp2_with fail;clear hat_ hsm_;cases h6:E.is (n+1) [58] with
  | true =>
   simp only [h6,bs,reduceCtorEq] at H;have d10:(E.word (((n:Nat):Int)+1)==[58])=true:=h6;refine OA H _ ?_;intro w H;have L:=hid (gA h6);clear h6;go_wp2_with fail;clear d10;refine yB H 67 ?_;intro p w H;go_wp2_with fail;refine DL H (fun _=>yJ H.out.rd) up ?_;intro q u n w HE H;have L:=hid (eZ1 HE.out L.out);clear HE;exact dr
  | false =>
   simp only [h6,bs,reduceCtorEq] at H;have d42:(E.word (((n:Nat):Int)+1)==[58])=false:=h6;refine OA H _ ?_;intro w H;clear h6;exact dr
 | false =>
  simp only [h1,bs,reduceCtorEq] at H;refine RB H _ false h1 ?_;intro w H;clear h1;exact dr
end
