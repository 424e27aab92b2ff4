import Derived.Test.YtjdllofmhglmiaaGreatDoorQBO
import Derived.Test.YtjdllofmhglmiaaGreatDoorQAK
namespace Go.Proofs.YtjdllofmhglmiaaGreatDoor
open Lib(hid)
set_option linter.all false
set_option maxHeartbeats 40000000
set_option maxRecDepth 100000
section
open Go.RowKit
theorem dU (E:Ev) (E0:Env):aB E (spec E0 0):=by
 constructor <;> intros <;> rename_i h <;> exact absurd rfl h
theorem GT {E:Ev}{k:Nat} (hk:k<=1000000000000) (H:∀ (E':Ev) j,E'.toEnv=E.toEnv->j<=k->aB E' (spec E.toEnv j)):aB E (spec E.toEnv (k+1)):=by
 have HA:∀ j,j<=k->aB E (spec E.toEnv j):=fun j hj=>H E j rfl hj
 have HD:=HA k (C' _);have HG:∀ E':Ev,E'.toEnv=E.toEnv->aB E' (spec E.toEnv k):=fun E' he=>H E' k he (C' _)
 have HS:=ZF E.toEnv k;constructor
 case t =>
  intro f c n g w hf hp h hr;cases f with
  | group=>exact OQ HA Cs h hp.2 hr
  | fn=>exact YW HD h hr
  | signature=>exact mM HD h hr
  | params=>exact WP HA Cs h hr
  | tparams=>exact iO HA Cs h hr
  | names=>exact ZG HA hk h hr
  | union=>exact GQ HA hk h hr
  | typ=>exact uV HD h hr
  | typeName=>exact sM HA Cs h hr
  | exprs=>exact AQ HA hk h hr
  | types=>exact VQ HA hk h hr
  | expr=>exact XS HD h hr
  | unary=>exact qQ HD h hr
  | operand=>exact kO HD h hr
  | primary=>exact NN H h hr
  | elements=>exact EM HA Cs h hr
  | value=>exact NR HD h hr
  | stmts=>exact WQ HA hk h hr
  | block=>exact tR HD h hr
  | stmt=>exact YS HD h hr
  | declared=>exact wM HD h hp.2 hr
  | started=>exact rO HD h hp.2 hr
  | returned=>exact DM HD h hp.2 hr
  | branch=>exact RP h hp.2 hr
  | simple=>exact dQ HD h hr
  | ifs=>exact EV HD HS h hp.2 hr
  | switches=>exact FM HD HS h hp.2 hr
  | selects=>exact jO HD h hp.2 hr
  | fors=>exact jT HD HG HS h hp.2 hr
  | one o =>
   cases o with
   | expr=>exact HD.t .expr c n g w Ct (DA rfl h.at_) h hr
   | typ=>exact HD.t .typ c n g w Ct (DA rfl h.at_) h hr
   | param=>exact wR HD h hr
   | field=>exact mQ HD h hr
   | elem=>exact bT HD h hr
   | element=>exact gO HD h hr
   | importSpec=>exact EK h hr
   | constSpec=>exact wL HD h hr
   | typeSpec=>exact qM HD h hr
   | valueSpec=>exact UL HD h hr
   | tparam=>exact absurd rfl hf
   | call=>exact absurd rfl hf
  | file=>exact absurd rfl hf
  | fileImports _ _=>exact absurd rfl hf
  | fileDecls _ _ _=>exact absurd rfl hf
  | namesMore _=>exact absurd rfl hf
  | unionMore _=>exact absurd rfl hf
  | row _=>exact absurd rfl hf
  | members _ _=>exact absurd rfl hf
  | exprsMore _=>exact absurd rfl hf
  | typesMore _=>exact absurd rfl hf
  | binary _=>exact absurd rfl hf
  | binMore _ _ _=>exact absurd rfl hf
  | primMore _ _=>exact absurd rfl hf
  | dot _ _=>exact absurd rfl hf
  | call _ _=>exact absurd rfl hf
  | index _ _=>exact absurd rfl hf
  | indexMore _ _ _=>exact absurd rfl hf
  | slice _ _ _=>exact absurd rfl hf
  | stmtsMore _=>exact absurd rfl hf
  | rest _ _=>exact absurd rfl hf
  | clauses _ _=>exact absurd rfl hf
  | clausesMore _ _ _=>exact absurd rfl hf
  | overall _ _ _=>exact absurd rfl hf
  | cased s =>
   have hr2:PE (spec E.toEnv k) s n g≠.out:=hr
   show Calls _ (xD (.cased s)) _ _ (Ans E c g (PE (spec E.toEnv k) s n g) w)
   unfold PE at hr2 ⊢;by_cases h1:s=1
   ·subst h1;exact HD.t .exprs c n g w Ct (DA rfl h.at_) h hr2
   ·rw [Bc h1] at hr2 ⊢;by_cases h2:s=2
    ·subst h2;exact HD.t .types c n g w Ct (DA rfl h.at_) h hr2
    ·rw [Bc h2] at hr2 ⊢;have e:xD (.cased s)=xD .simple:=by simp only [xD];rw [Bc h1,Bc h2]
     rw [e];exact HD.t .simple c n g w Ct (DA rfl h.at_) h hr2
 case b=>exact fun least c n g w h1 h2 h hr=>CO HA least h1 h2 h hr
 case row=>exact fun fr c n w0 w p t0 h hn hr=>jW HD h hn hr
 case members =>
  intro kd o c n g w0 w p k2 wd fr t0 ho h hn hr;have hr2:((CB E.toEnv (spec E.toEnv k) kd o n g).andThen fun m n1=>(.ok (.mk k2 wd fr n1 [m]) n1:R Tr))≠.out:=fun e=>by
   have hr3:CB E.toEnv (spec E.toEnv k) kd o n g≠.out:=hr;cases hm:CB E.toEnv (spec E.toEnv k) kd o n g with
   | out=>exact hr3 hm
   | bad m=>rw [hm] at e;cases e
   | ok a m=>rw [hm] at e;cases e
  cases o with
  | field=>exact FI HA Cs h hn hr2
  | elem=>exact mJ HA Cs h hn hr2
  | _=>exact absurd ho Ct
 case dot=>exact fun fr x c n g w0 w p t0 kv q hlt h hn hr=>CV HD h hlt hn hr
 case call=>exact fun fr x c n g w0 w p t0 kv q hlt h hn hr=>aU HA hk h hn hr
 case index=>exact fun fr x c n g w0 w p t0 kv q hlt h hn hr=>uQ HA hk h hlt hn hr
 case slice=>exact fun fr x lo c n g w0 w p k2 t0 kv q ql h hn hr=>RQ HD h hn hr
 case rest=>exact fun fr left c n g w0 w p t0 ql h hn hr=>PT HD h hn hr
 case overall=>exact fun fr wd left c n g w0 w p k2 t0 ql h hn hr=>VN HD h hn hr
 case clauses=>exact fun kd sort c n g w hs h hr=>ZN HA hk hs h hr
theorem oP:∀ (k:Nat),k<=1000000000000->∀ E:Ev,aB E (spec E.toEnv k):=by
 intro k
 induction k using Nat.strongRecOn with
 | _ k ih =>
  intro hk E;cases k with
  | zero=>exact dU E E.toEnv
  | succ k =>
   refine GT Cs (fun E' j he hj=>?_);rw [<- he];exact ih j Cs Cs E'
end
section
open Go.RowKit
variable {E:Ev}{S:AB}{c n k:Nat}{g:Bool}{w:World}
theorem sP {P:Program}{Q:Exit->Act->List Frame->World->Prop}{id:Nat}{d:Option Nat}{ty:TypeId}{pos:String}{c₀:Frame}{cs:List Frame}{a:Act}{v:Value}{older:List PanicEntry} (hm:c₀.mode=.panicking ({ v:=v,recovered:=false }::older))
    (h:Q .normal (a.put d v) ({ c₀ with mode:=.panicking ({ v:=v,recovered:=true }::older) }::cs) w) :
    (Code.region id #[{ dst:=d,op:=.call { callee:=.builtin .recover,args:=#[],argTypes:=#[] },type:=ty,pos:=pos,after:=#[],guard:=none }] false).wpS P Q a (c₀::cs) w:=by
  apply wpS_region;simp [wpOpsS,go_sem,recoverD,hm];exact h
theorem CK {P:Program}{Q:Exit->Act->List Frame->World->Prop}{id:Nat}{d:Option Nat}{ty:TypeId}{pos:String}{c₀:Frame}{cs:List Frame}{a:Act} (hm:c₀.mode=.returning) (h:Q .normal (a.put d .nilIface) (c₀::cs) w) :
    (Code.region id #[{ dst:=d,op:=.call { callee:=.builtin .recover,args:=#[],argTypes:=#[] },type:=ty,pos:=pos,after:=#[],guard:=none }] false).wpS P Q a (c₀::cs) w:=by
  apply wpS_region;simp [wpOpsS,go_sem,recoverD,hm];exact h
def FB (E:Env) (k:Nat):Nat:=match E.l[k]? with|some t=>t.fr|none=>E.s.length
theorem mT (p1 p2 p3:Addr) (w:World) :
    CallsD Tryz.prog 38 #[.pointer (some p1),.pointer (some p2),.pointer (some p3)] .returning w fun e u' w'=>e=.returned (.tuple #[])/\u'=.returning/\w'=w:=by
  refine callsD_of_wpS Tryz.func38 rfl fun c₀ cs hu=>?_
  simp only [Tryz.ntmps38,List.size_toArray,Ae,Am,Nat.reduceAdd,Nat.reduceSub,Array.replicate_succ,
     Array.replicate_zero,List.push_toArray,List.append_toArray,Ar,Ao]
  refine wpS_seq (CK hu ?_);refine wpS_of_wp (w:=w) ?_;simp only [Act.put,Q',Z',Aa];go_wp2_with fail;exact⟨rfl,.returning,by rw [<- hu],_,results_none rfl _ _ _,rfl,rfl,rfl⟩
theorem fQ (B1 B2 B3:Nat) (older:List PanicEntry) {E:Ev}{c n:Nat}{g:Bool} (w:World) (h:Rd E c n g w) (hz:E.zo=none) (hd:B1≠B2/\B1≠B3/\c < B2/\c < B3) (v2:Value) (x y:Int)
    (h1:w.cell? (y8 B1 0)=some (p8 c)) (h2:w.heap[B2]?=some (.cells #[v2] 44 (0,0))) (h3:w.heap[B3]?=some (.cells #[i8 x,i8 y] 28 (0,0))) :
    CallsD Tryz.prog 38 #[p8 B1,p8 B2,p8 B3] (.panicking ({ v:=.iface 79 (i8 (n:Int)),recovered:=false }::older)) w fun e u' w' =>
      e=.returned (.tuple #[])/\u'=.panicking ({ v:=.iface 79 (i8 (n:Int)),recovered:=true }::older)/\Fr [B2,B3] w w'/\w'.heap[B2]?=some (.cells #[.pointer none] 44 (0,0))/\w'.heap[B3]?=some (.cells #[i8 7,i8 (FB E.toEnv n:Int)] 28 (0,0)):=by
  refine callsD_of_wpS Tryz.func38 rfl fun c₀ cs hu=>?_
  simp only [Tryz.ntmps38,List.size_toArray,Ae,Am,Nat.reduceAdd,Nat.reduceSub,Array.replicate_succ,
     Array.replicate_zero,List.push_toArray,List.append_toArray,Ar,Ao]
  refine wpS_seq (sP hu ?_);refine wpS_of_wp (w:=w) ?_;simp only [Act.put,Q',Z',Aa];obtain⟨r0,r1,r2,r3,r4⟩:=h.cells;have c2:w.cell? (y8 B2 0)=some v2:=Fz
  have c3:w.cell? (y8 B3 0)=some (i8 x):=Hz
  have c4:w.cell? (y8 B3 1)=some (i8 y):=Hz
  have f2:w.frozen? (y8 B2 0)=false:=Gc
  have f3:w.frozen? (y8 B3 0)=false:=by simp [World.frozen?,h3]
  have f4:w.frozen? (y8 B3 1)=false:=by simp [World.frozen?,h3]
  have hfa:∀ (x:Int) (w:World),Sem.run Tryz.prog (Instr.typeAssert (.iface 79 (i8 x)) 20 79 true) w=.ok (.tuple #[i8 x,.bool true]) w:=fun _ _=>Cw
  have hne:B2≠B3:=by intro e;subst e;rw [h2] at h3;cases h3
  have hsm:=h.lie.small;have k2:=heap_setCell_same w B2 0 _ _ (.pointer none) h2;have k3:=heap_setCell_same (w.setCell (y8 B2 0) (.pointer none)) B3 0 _ _ (i8 7) ((Ah w (y8 B2 0) (.pointer none) B3 (Ne.symm hne)).trans h3);have k4:=heap_setCell_same ((w.setCell (y8 B2 0) (.pointer none)).setCell (y8 B3 0) (i8 7)) B3 1 _ _ (i8 (E.s.length:Int)) k3;have k2':=(Ah ((w.setCell (y8 B2 0) (.pointer none)).setCell (y8 B3 0) (i8 7)) (y8 B3 1) (i8 (E.s.length:Int)) B2 hne).trans ((Ah (w.setCell (y8 B2 0) (.pointer none)) (y8 B3 0) (i8 7) B2 hne).trans k2);simp only [Q',Z',Aa] at k4 k2';have hF:Fr [B2,B3] w (((w.setCell (y8 B2 0) (.pointer none)).setCell (y8 B3 0) (i8 7)).setCell (y8 B3 1) (i8 (E.s.length:Int))) :=
    (((NA B2 0 w _).weaken (fun k _ hk=>Dv)).trans ((NA B3 0 _ _).weaken (fun k _ hk=>Dv))).trans ((NA B3 1 _ _).weaken (fun k _ hk=>Dv))
  have hR:=h.later hF (fun k hk=>Dj) (.inl hz);have g1:=hF.cell (a:=(y8 B1 0)) (by simp;exact⟨hd.1,hd.2.1⟩) h1;generalize hw:((w.setCell (y8 B2 0) (.pointer none)).setCell (y8 B3 0) (i8 7)).setCell (y8 B3 1) (i8 (E.s.length:Int))=wS at *;obtain⟨s0,s1,s2,s3,s4⟩:=hR.cells;have m4:wS.cell? (y8 B3 1)=some (i8 (E.s.length:Int)):=by simp [World.cell?,k4]
  have mf:wS.frozen? (y8 B3 1)=false:=by simp [World.frozen?,k4]
  have HP:=hid (Az hF (Az k2' k4));clear hF k2 k3 k4 k2';cases hl:E.l[n]? with
  | none =>
    have hge:E.l.length<=n:=List.getElem?_eq_none_iff.1 hl;have hfa2:FB E.toEnv n=E.s.length:=by unfold FB;rw [hl]
    have hdec:decide ((n:Int) < (E.l.length:Int))=false:=Cv
    go_wp2_with (simp only [hw]);exact⟨rfl,_,rfl,_,results_none rfl _ _ _,rfl,rfl,HP.out.1,HP.out.2.1,by rw [hfa2];exact HP.out.2.2⟩
  | some t =>
    have hlt:n < E.l.length:=(Al.1 hl).1;have hfa2:FB E.toEnv n=t.fr:=by unfold FB;rw [hl]
    have hdec:decide ((n:Int) < (E.l.length:Int))=true:=Cv
    obtain⟨b,o,hta,hb,t0,t1,t2⟩:=hR.lie.toks n t hl;rw [hta] at s1;go_wp2_with (simp only [hw]);have q3:=heap_setCell_same wS B3 1 _ _ (i8 (t.fr:Int)) HP.out.2.2;have q2:=(Ah wS (y8 B3 1) (i8 (t.fr:Int)) B2 hne).trans HP.out.2.1;simp only [Q',Z',Aa] at q3;exact⟨rfl,_,rfl,_,results_none rfl _ _ _,rfl,rfl,HP.out.1.trans ((NA B3 1 wS _).weaken (fun k _ hk=>Dv)),q2,by rw [hfa2];exact q3⟩
end
section
open Go.RowKit
variable {E:Ev}{S:AB}{c n k:Nat}{g:Bool}{w:World}
def mF (E:Ev) (c:Nat) (goal:UInt8) (w:World) (e:Ending) (w':World):Prop :=
 match FD E.toEnv goal with
 | .ok t _=>∃ q,e=.returned (.tuple #[p8 q,qA 0 0])/\EA w' w.heap.size w'.heap.size q t/\Fr [c] w w'
 | .bad k=>e=.returned (.tuple #[.pointer none,qA 7 (FB E.toEnv k)])/\Fr [c] w w'
 | .out=>False
theorem gV (w:World) (o1 o2 o3:Obj):(((w.alloc o1).alloc o2).alloc o3).heap[w.heap.size]?=some o1/\(((w.alloc o1).alloc o2).alloc o3).heap[w.heap.size+1]?=some o2/\(((w.alloc o1).alloc o2).alloc o3).heap[w.heap.size+1+1]?=some o3 /\
  Below w.heap.size w (((w.alloc o1).alloc o2).alloc o3)/\(((w.alloc o1).alloc o2).alloc o3).heap.size=w.heap.size+1+1+1:=by
 have s1:(w.alloc o1).heap.size=w.heap.size+1:=Cu
 have s2:((w.alloc o1).alloc o2).heap.size=w.heap.size+1+1:=Cu
 have a1:=B8 w o1;have a2:=B8 (w.alloc o1) o2;have a3:=B8 ((w.alloc o1).alloc o2) o3;rw [s1] at a2;rw [s2] at a3;have b2:=(N' (w.alloc o1).heap.size (w.alloc o1)).alloc (C' _) o2;have b3:=(N' ((w.alloc o1).alloc o2).heap.size ((w.alloc o1).alloc o2)).alloc (C' _) o3;refine⟨(b3.block _ Cs).trans ((b2.block _ Cs).trans a1),(b3.block _ Cs).trans a2,a3,?_,Cu⟩;exact (((N' w.heap.size w).alloc (C' _) o1).alloc Cs o2).alloc Cs o3
theorem yG {R:Ending->World->Prop}{tm:Array Value}{B1 B2 B3:Nat} (h:Rd E c n g w) (hz:E.zo=none) (hd:B1≠B2/\B1≠B3/\c < B2/\c < B3) (v2:Value) (h4:tm[4]?=some (p8 B2)) (h5:tm[5]?=some (p8 B3))
  (h1:w.cell? (y8 B1 0)=some (p8 c)) (h2:w.heap[B2]?=some (.cells #[v2] 44 (0,0))) (h3:w.heap[B3]?=some (.cells #[i8 0,i8 0] 28 (0,0)))
  (hR:∀ w',Fr [B2,B3] w w'->R (.returned (.tuple #[.pointer none,qA 7 (FB E.toEnv n)])) w') :
  Leaves Tryz.prog Tryz.f27 tm R [{ target:=.fn (.func 38) #[p8 B1,p8 B2,p8 B3],args:=#[] }] (.panicking [{ v:=.iface 79 (i8 (n:Int)),recovered:=false }]) w:=by
 refine leaves_cons (f:=38) (args:=#[p8 B1,p8 B2,p8 B3]) Cu Kp ?_;refine (fQ B1 B2 B3 [] w h hz hd v2 0 0 h1 h2 h3).mono ?_;rintro e u' w'' ⟨rfl,rfl,hF,k2,k3⟩;have c2:w''.cell? (y8 B2 0)=some (.pointer none):=by simp [World.cell?,k2]
 have c3:w''.cell? (y8 B3 0)=some (i8 7):=by simp [World.cell?,k3]
 have c4:w''.cell? (y8 B3 1)=some (i8 (FB E.toEnv n:Int)):=by simp [World.cell?,k3]
 have:=hR w'' hF;refine⟨.tuple #[.pointer none,qA 7 (FB E.toEnv n)],?_,this⟩;simp [results,Tryz.results27,h4,h5,c2,c3,c4,go_sem,qA]
theorem gK {R:Ending->World->Prop}{tm:Array Value}{B1 B2 B3 q:Nat} (h4:tm[4]?=some (p8 B2)) (h5:tm[5]?=some (p8 B3))
  (h2:w.heap[B2]?=some (.cells #[p8 q] 44 (0,0))) (h3:w.heap[B3]?=some (.cells #[i8 0,i8 0] 28 (0,0))) (hR:R (.returned (.tuple #[p8 q,qA 0 0])) w) :
  Leaves Tryz.prog Tryz.f27 tm R [{ target:=.fn (.func 38) #[p8 B1,p8 B2,p8 B3],args:=#[] }] .returning w:=by
 refine leaves_cons (f:=38) (args:=#[p8 B1,p8 B2,p8 B3]) Cu Kp ?_;refine (mT (y8 B1 0) (y8 B2 0) (y8 B3 0) w).mono ?_;rintro e u' w'' ⟨rfl,rfl,rfl⟩;have c2:w''.cell? (y8 B2 0)=some (p8 q):=Fz
 have c3:w''.cell? (y8 B3 0)=some (i8 0):=Hz
 have c4:w''.cell? (y8 B3 1)=some (i8 0):=Hz
 refine⟨.tuple #[p8 q,qA 0 0],?_,hR⟩;simp [results,Tryz.results27,h4,h5,c2,c3,c4,go_sem,qA]
theorem TC {b i:Nat}{cs:Array Value}{v:Value}{tt:TypeId} (h:w.heap[b]?=some (.cells cs tt (0,0))) (hv:cs[i]?=some v):w.setCell (y8 b i) v=w:=by
 have hi:i < cs.size:=(Ak.1 hv).1;have hc:cs.setIfInBounds i v=cs:=by
  apply Array.ext_getElem?;intro j;by_cases e:i=j
  ·subst e;rw [Array.getElem?_setIfInBounds_self_of_lt hi,hv]
  ·rw [Array.getElem?_setIfInBounds_ne e]
 have hh:(w.setCell (y8 b i) v).heap=w.heap:=by
  apply Array.ext_getElem?;intro j;rcases Nat.decEq j b with hne|rfl
  ·exact Ah _ _ _ _ hne
  ·rw [heap_setCell_same w j i _ _ _ h,h,hc]
 have h2:w.setCell (y8 b i) v={ w with heap:=(w.setCell (y8 b i) v).heap }:=rfl;rw [h2,hh]
theorem Ans.up_inv {T:R Tr}{w':World} (h:Ans E c g T w (Up k) w'):T=.bad k/\(∃ g',Rd E c k g' w')/\Fr [c] w w':=by
 cases T with
 | ok t m=>obtain⟨q,e,_⟩:=h;cases e
 | out=>exact h.elim
 | bad m =>
  obtain⟨e,h1,h2⟩:=h;have e2:((k:Nat):Int)=((m:Nat):Int):=by simpa [Up] using e
  have e3:k=m:=Cs
  subst e3;exact⟨rfl,h1,h2⟩
theorem AO {goal:UInt8}{tm:Array Value}{t:Tr}{q:Nat}{wB wc w':World} (hA:Ans E c false (DK E.toEnv goal t n) wc (Up k) w')
  (HN:EA wc wB.heap.size wc.heap.size q t/\Fr [c,w.heap.size+1] wB wc/\wc.heap[w.heap.size+1]?=some (.cells #[p8 q] 44 (0,0))/\wc.heap[w.heap.size+1+1]?=some (.cells #[i8 0,i8 0] 28 (0,0)))
  (ht:FD E.toEnv goal=DK E.toEnv goal t n) (HB:wB.heap[w.heap.size]?=some (.cells #[p8 c] 47 (0,0))/\wB.heap[w.heap.size+1]?=some (.cells #[.pointer none] 44 (0,0))/\wB.heap[w.heap.size+1+1]?=some (.cells #[i8 0,i8 0] 28 (0,0))/\wB.heap.size=w.heap.size+1+1+1/\c < w.heap.size)
  (HF:Fr [c] w wB) (c1:wc.cell? (y8 w.heap.size 0)=some (p8 c)) (hz:E.zo=none) (h4:tm[4]?=some (.pointer (some (y8 (w.heap.size+1) 0)))) (h5:tm[5]?=some (.pointer (some ⟨w.heap.size+1+1,0,none⟩))) :
  Leaves Tryz.prog Tryz.f27 tm (mF E c goal w) [{ target:=.fn (.func 38) #[p8 w.heap.size,.pointer (some (y8 (w.heap.size+1) 0)),.pointer (some ⟨w.heap.size+1+1,0,none⟩)],args:=#[] }] (.panicking [{ v:=.iface 79 (i8 (k:Int)),recovered:=false }]) w':=by
 obtain⟨e,⟨g',q1⟩,q3⟩:=hA.up_inv;obtain⟨hN,hF,h2,h3⟩:=HN;obtain⟨_,_,_,hsz,hcw⟩:=HB;refine yG q1 hz ⟨Cs,Cs,Cs,Cs⟩ (p8 q) h4 h5 (q3.cell (a:=(y8 w.heap.size 0)) Cv c1) (q3.at_ Cv h2) (q3.at_ Cv h3) ?_;intro w2 hF2;unfold mF;rw [ht,e];exact⟨rfl,((HF.trans' hF (fun i hi=>by simp at hi;simp;omega)).trans q3).trans' hF2 (fun i hi=>.inr F4)⟩
theorem sO {w0:World}{P:World->Prop}{T X:R Tr} (h:Hid (Sx E c n g w0 P T X w)) (m:Nat):Hid (Sx E c n g w0 P T X (w.drewN m)):=h.out.below (below_drewN (N' _ _) m)
theorem bK {goal:UInt8}{t:Tr}{q m:Nat}{wB wc w':World} (ht:FD E.toEnv goal=DK E.toEnv goal t n) (hT:DK E.toEnv goal t n=.ok t m) (hN:EA wc wB.heap.size wc.heap.size q t) (hF:Fr [c,w.heap.size+1] wB wc) (HF:Fr [c] w wB) (h8:Fr [c] wc w') (hs:w.heap.size+1+1+1<=wB.heap.size) (hlo:c < w.heap.size:=by assumption) :
  mF E c goal w (.returned (.tuple #[p8 q,qA 0 0])) w'.drew:=by
 unfold mF;rw [ht,hT];have hN2:=hN.later h8 (fun k hk=>Dj) (C' _) h8.size;exact⟨q,rfl,EA.kept (w:=w') (w':=w'.drew) (fun _ _ _=>rfl) (show w.heap.size<=wB.heap.size by omega) (C' _) q t hN2,((HF.trans' hF (fun i hi=>by simp at hi;simp;omega)).trans h8).trans (lA c (N' _ _).drew)⟩
theorem OK {goal:UInt8}{k:Nat} (h:¬ goal=UInt8.ofNat k) (hk:k < 256):(((goal.toNat:Nat):Int)==((k:Nat):Int))=false:=by
 rw [Bi];intro e;apply h;have e2:goal.toNat=k:=Cs
 rw [<- e2];simp
theorem PS (h:Rd E c 0 false w) (hlen:E.l.length<=1000000) (hne:(spec E.toEnv (OC E.toEnv)).t .file 0 false≠.out) :
  Calls Tryz.prog 42 #[p8 c] w (Ans E c false ((spec E.toEnv (OC E.toEnv)).t .file 0 false) w) :=
 wT (k:=20*E.l.length+19) (fun j hj=>oP j Cs E) Cs h hne
theorem XT (h:Rd E c 0 false w) (hz:E.zo=none) (hlen:E.l.length<=1000000) (goal:UInt8) :
  Calls Tryz.prog 27 #[p8 c,.int .u8 (goal.toNat:Int)] w (mF E c goal w):=by
 have HD:=hid (oP (OC E.toEnv) (by unfold OC;omega) E);have hne:=hid (LL (E:=E.toEnv) goal);have hmf:∀ (fn:Fn) (first cap:Array Value) (w:World),(Instr.makeFunc fn first cap).run Tryz.prog w=.ok (.func fn first cap) w:=fun _ _ _ _=>rfl
 obtain⟨b1,b2,b3,hB,hsz⟩:=gV w (.cells #[p8 c] 47) (.cells #[.pointer none] 44) (.cells #[i8 0,i8 0] 28);have HR:=hid (h.below hB);have HF:=hid (lA c hB);have hcw:=h.lt;clear h
 go_enter_defers Tryz.func27,Tryz.ntmps27
 go_upto_block 0 with fail
 generalize (((w.alloc (.cells #[p8 c] 47)).alloc (.cells #[.pointer none] 44)).alloc (.cells #[i8 0,i8 0] 28))=wB at *;have hc1:wB.cell? (y8 w.heap.size 0)=some (p8 c):=by simp [World.cell?,b1]
 have HB:=hid (Az b1 (Az b2 (Az b3 (Az hsz hcw))));clear b1 b2 b3 hB hsz hcw
 go_cut [] from 8 (fun wx=>∃ t n q,(spec E.toEnv (OC E.toEnv)).t (IC goal) 0 false=.ok t n/\Rd E c n false wx/\EA wx wB.heap.size wx.heap.size q t/\Fr [c,w.heap.size+1] wB wx/\wx.heap[w.heap.size+1]?=some (.cells #[p8 q] 44 (0,0)))
 case first =>
  by_cases e1:goal=1
  ·subst e1;have hg:IC 1=.typ:=by unfold IC;rfl
   rw [hg] at hne;go_wp2_with fail;refine (HD.out.t .typ c 0 false wB Ct (DA rfl (Nat.zero_le _)) HR.out hne.out).mono ?_;intro e w5 hA;cases hs:(spec E.toEnv (OC E.toEnv)).t .typ 0 false with
   | out=>exact absurd hs hne.out
   | ok t n =>
    rw [hs] at hA;obtain⟨q,rfl,q1,q2,q3⟩:=hA;have h2:=q3.at_ C9 HB.out.2.1;have c2:w5.cell? (y8 (w.heap.size+1) 0)=some (.pointer none):=Fz
    have f2:w5.frozen? (y8 (w.heap.size+1) 0)=false:=Gc
    have k2:=heap_setCell_same w5 (w.heap.size+1) 0 _ _ (p8 q) h2;have hF:=NA (w.heap.size+1) 0 w5 (p8 q);have hl:c < w.heap.size+1:=Ds
    have hz9:wB.heap.size=w.heap.size+1+1+1:=HB.out.2.2.2.1;have HZ:Hid (∃ t9 n9 q9,(spec E.toEnv (OC E.toEnv)).t (IC 1) 0 false=.ok t9 n9/\Rd E c n9 false (w5.setCell (y8 (w.heap.size+1) 0) (p8 q))/\EA (w5.setCell (y8 (w.heap.size+1) 0) (p8 q)) wB.heap.size (w5.setCell (y8 (w.heap.size+1) 0) (p8 q)).heap.size q9 t9/\Fr [c,w.heap.size+1] wB (w5.setCell (y8 (w.heap.size+1) 0) (p8 q))/\(w5.setCell (y8 (w.heap.size+1) 0) (p8 q)).heap[w.heap.size+1]?=some (.cells #[p8 q9] 44 (0,0))) :=
     ⟨t,n,q,Kb,q1.later hF (fun k hk=>Dj) (.inl hz),q2.later hF (fun k hk=>Dj) (C' _) hF.size,(q3.weaken (fun k _ hk=>Dv)).trans (hF.weaken (fun k _ hk=>Dv)),k2⟩
    clear hs q1 q2 q3 h2 k2 hF hl hz9;go_wp2_with fail
    go_meet
    case rel=>exact HZ.out
   | bad k =>
    rw [hs] at hA;obtain⟨rfl,⟨g',q1⟩,q3⟩:=hA;refine yG q1 hz ⟨Cs,Cs,Ds,Ds⟩ (.pointer none) rfl rfl (q3.cell (a:=(y8 w.heap.size 0)) C9 hc1) (q3.at_ C9 HB.out.2.1) (q3.at_ C9 HB.out.2.2.1) ?_;intro w' hF;have ht:FD E.toEnv 1=.bad k:=G9
    exact zbj
  have g1:(((goal.toNat:Nat):Int)==1)=false:=OK (k:=1) e1 Cs;by_cases e2:goal=2
  ·subst e2;have hg:IC 2=.expr:=by unfold IC;rfl
   rw [hg] at hne;go_wp2_with fail;refine (HD.out.t .expr c 0 false wB Ct (DA rfl (Nat.zero_le _)) HR.out hne.out).mono ?_;intro e w5 hA;cases hs:(spec E.toEnv (OC E.toEnv)).t .expr 0 false with
   | out=>exact absurd hs hne.out
   | ok t n =>
    rw [hs] at hA;obtain⟨q,rfl,q1,q2,q3⟩:=hA;have h2:=q3.at_ C9 HB.out.2.1;have c2:w5.cell? (y8 (w.heap.size+1) 0)=some (.pointer none):=Fz
    have f2:w5.frozen? (y8 (w.heap.size+1) 0)=false:=Gc
    have k2:=heap_setCell_same w5 (w.heap.size+1) 0 _ _ (p8 q) h2;have hF:=NA (w.heap.size+1) 0 w5 (p8 q);have hl:c < w.heap.size+1:=Ds
    have hz9:wB.heap.size=w.heap.size+1+1+1:=HB.out.2.2.2.1;have HZ:Hid (∃ t9 n9 q9,(spec E.toEnv (OC E.toEnv)).t (IC 2) 0 false=.ok t9 n9/\Rd E c n9 false (w5.setCell (y8 (w.heap.size+1) 0) (p8 q))/\EA (w5.setCell (y8 (w.heap.size+1) 0) (p8 q)) wB.heap.size (w5.setCell (y8 (w.heap.size+1) 0) (p8 q)).heap.size q9 t9/\Fr [c,w.heap.size+1] wB (w5.setCell (y8 (w.heap.size+1) 0) (p8 q))/\(w5.setCell (y8 (w.heap.size+1) 0) (p8 q)).heap[w.heap.size+1]?=some (.cells #[p8 q9] 44 (0,0))) :=
     ⟨t,n,q,Kb,q1.later hF (fun k hk=>Dj) (.inl hz),q2.later hF (fun k hk=>Dj) (C' _) hF.size,(q3.weaken (fun k _ hk=>Dv)).trans (hF.weaken (fun k _ hk=>Dv)),k2⟩
    clear hs q1 q2 q3 h2 k2 hF hl hz9;go_wp2_with fail
    go_meet
    case rel=>exact HZ.out
   | bad k =>
    rw [hs] at hA;obtain⟨rfl,⟨g',q1⟩,q3⟩:=hA;refine yG q1 hz ⟨Cs,Cs,Ds,Ds⟩ (.pointer none) rfl rfl (q3.cell (a:=(y8 w.heap.size 0)) C9 hc1) (q3.at_ C9 HB.out.2.1) (q3.at_ C9 HB.out.2.2.1) ?_;intro w' hF;have ht:FD E.toEnv 2=.bad k:=G9
    exact zbj
  have g2:(((goal.toNat:Nat):Int)==2)=false:=OK (k:=2) e2 Cs;by_cases e3:goal=3
  ·subst e3;have hg:IC 3=.stmts:=by unfold IC;rfl
   rw [hg] at hne;go_wp2_with fail;refine (HD.out.t .stmts c 0 false wB Ct (DA rfl (Nat.zero_le _)) HR.out hne.out).mono ?_;intro e w5 hA;cases hs:(spec E.toEnv (OC E.toEnv)).t .stmts 0 false with
   | out=>exact absurd hs hne.out
   | ok t n =>
    rw [hs] at hA;obtain⟨q,rfl,q1,q2,q3⟩:=hA;have h2:=q3.at_ C9 HB.out.2.1;have c2:w5.cell? (y8 (w.heap.size+1) 0)=some (.pointer none):=Fz
    have f2:w5.frozen? (y8 (w.heap.size+1) 0)=false:=Gc
    have k2:=heap_setCell_same w5 (w.heap.size+1) 0 _ _ (p8 q) h2;have hF:=NA (w.heap.size+1) 0 w5 (p8 q);have hl:c < w.heap.size+1:=Ds
    have hz9:wB.heap.size=w.heap.size+1+1+1:=HB.out.2.2.2.1;have HZ:Hid (∃ t9 n9 q9,(spec E.toEnv (OC E.toEnv)).t (IC 3) 0 false=.ok t9 n9/\Rd E c n9 false (w5.setCell (y8 (w.heap.size+1) 0) (p8 q))/\EA (w5.setCell (y8 (w.heap.size+1) 0) (p8 q)) wB.heap.size (w5.setCell (y8 (w.heap.size+1) 0) (p8 q)).heap.size q9 t9/\Fr [c,w.heap.size+1] wB (w5.setCell (y8 (w.heap.size+1) 0) (p8 q))/\(w5.setCell (y8 (w.heap.size+1) 0) (p8 q)).heap[w.heap.size+1]?=some (.cells #[p8 q9] 44 (0,0))) :=
     ⟨t,n,q,Kb,q1.later hF (fun k hk=>Dj) (.inl hz),q2.later hF (fun k hk=>Dj) (C' _) hF.size,(q3.weaken (fun k _ hk=>Dv)).trans (hF.weaken (fun k _ hk=>Dv)),k2⟩
    clear hs q1 q2 q3 h2 k2 hF hl hz9;go_wp2_with fail
    go_meet
    case rel=>exact HZ.out
   | bad k =>
    rw [hs] at hA;obtain⟨rfl,⟨g',q1⟩,q3⟩:=hA;refine yG q1 hz ⟨Cs,Cs,Ds,Ds⟩ (.pointer none) rfl rfl (q3.cell (a:=(y8 w.heap.size 0)) C9 hc1) (q3.at_ C9 HB.out.2.1) (q3.at_ C9 HB.out.2.2.1) ?_;intro w' hF;have ht:FD E.toEnv 3=.bad k:=G9
    exact zbj
  have g3:(((goal.toNat:Nat):Int)==3)=false:=OK (k:=3) e3 Cs;have hg:IC goal=.file:=by unfold IC;simp [e1,e2,e3]
  rw [hg] at hne;go_wp2_with fail;refine (PS HR.out hlen hne.out).mono ?_;intro e w5 hA;cases hs:(spec E.toEnv (OC E.toEnv)).t .file 0 false with
  | out=>exact absurd hs hne.out
  | ok t n =>
   rw [hs] at hA;obtain⟨q,rfl,q1,q2,q3⟩:=hA;have h2:=q3.at_ C9 HB.out.2.1;have c2:w5.cell? (y8 (w.heap.size+1) 0)=some (.pointer none):=Fz
   have f2:w5.frozen? (y8 (w.heap.size+1) 0)=false:=Gc
   have k2:=heap_setCell_same w5 (w.heap.size+1) 0 _ _ (p8 q) h2;have hF:=NA (w.heap.size+1) 0 w5 (p8 q);have hl:c < w.heap.size+1:=Ds
   have hz9:wB.heap.size=w.heap.size+1+1+1:=HB.out.2.2.2.1;have HZ:Hid (∃ t9 n9 q9,(spec E.toEnv (OC E.toEnv)).t (IC goal) 0 false=.ok t9 n9/\Rd E c n9 false (w5.setCell (y8 (w.heap.size+1) 0) (p8 q))/\EA (w5.setCell (y8 (w.heap.size+1) 0) (p8 q)) wB.heap.size (w5.setCell (y8 (w.heap.size+1) 0) (p8 q)).heap.size q9 t9/\Fr [c,w.heap.size+1] wB (w5.setCell (y8 (w.heap.size+1) 0) (p8 q))/\(w5.setCell (y8 (w.heap.size+1) 0) (p8 q)).heap[w.heap.size+1]?=some (.cells #[p8 q9] 44 (0,0))) :=
    ⟨t,n,q,Kb,q1.later hF (fun k hk=>Dj) (.inl hz),q2.later hF (fun k hk=>Dj) (C' _) hF.size,(q3.weaken (fun k _ hk=>Dv)).trans (hF.weaken (fun k _ hk=>Dv)),k2⟩
   clear hs q1 q2 q3 h2 k2 hF hl hz9;go_wp2_with fail
   go_meet
   case rel=>exact HZ.out
  | bad k =>
   rw [hs] at hA;obtain⟨rfl,⟨g',q1⟩,q3⟩:=hA;refine yG q1 hz ⟨Cs,Cs,Ds,Ds⟩ (.pointer none) rfl rfl (q3.cell (a:=(y8 w.heap.size 0)) C9 hc1) (q3.at_ C9 HB.out.2.1) (q3.at_ C9 HB.out.2.2.1) ?_;intro w' hF;have ht:FD E.toEnv goal=.bad k:=G9
   exact zbj
 case rest =>
  obtain⟨t,n,q,hs,hR,hN,hF,h2⟩:=hcut;have ht:FD E.toEnv goal=DK E.toEnv goal t n:=by unfold FD;rw [hs];rfl
  have h3:=hF.at_ (k:=w.heap.size+1+1) C9 HB.out.2.2.1;have c1:=hF.cell (a:=(y8 w.heap.size 0)) C9 hc1;have HS:=Sx.start (T:=DK E.toEnv goal t n) hR BS rfl;have HN:=hid (Az hN (Az hF (Az h2 h3)));obtain⟨_,r1,_,r3,_⟩:=hR.cells;have hsm:=hR.lie.small;have hat:=hR.at_;have hwr:IntKind.i64.wrap ((E.l.length:Int) - 1)=(E.l.length:Int) - 1:=Cy
  conv at HS=>arg 1;arg 8;unfold DK
  clear hR hN hF h2 h3;by_cases hle:goal<=2
  ·have hd:decide (((goal.toNat:Nat):Int)<=2)=true:=by simp;exact Int.ofNat_le.2 (UInt8.le_iff_toNat_le.1 hle)
   by_cases heq:n+1=E.l.length
   ·have hq:(((n:Nat):Int)==(E.l.length:Int) - 1)=true:=by simp;omega
    rw [Bb ⟨hle,heq⟩] at HS;go_wp2_with fail;go_big_quiet (fail);have HS2:=sO HS nq;clear HS;go_wp2_with fail;refine nO HS2 ?_;intro n2 bb w7 hm H7;clear HS2;simp only [<- hm] at H7;clear hm;have m1:=H7.out.fr.cell (a:=(y8 w.heap.size 0)) C9 c1;go_wp2_with fail;cases he:E.ended n2 with
    | true =>
     refine AD H7 true he ?_;intro w8 H8;clear H7;exact zad
    | false =>
     refine AD H7 false he ?_;intro w8 H8;clear H7;exact za2
   ·have hq:(((n:Nat):Int)==(E.l.length:Int) - 1)=false:=by simp;omega
    rw [Bc (fun h=>heq h.2)] at HS;exact zes
  ·have hd:decide (((goal.toNat:Nat):Int)<=2)=false:=by simp;have:=fun h=>hle (UInt8.le_iff_toNat_le.2 h);simp at this;omega
   rw [Bc (fun h=>hle h.1)] at HS;exact zes
end
section
open Go.RowKit
variable {E:Ev}{c n k:Nat}{g:Bool}{w w':World}
inductive qK where
 | bad (err at':Nat):qK
 | ok (l:List Tk) (t:Tr):qK
def tD (N:List UInt8->uH) (goal:UInt8) (s:List UInt8):qK :=
 if goal < 1∨4 < goal then .bad 1 0
 else match N s with
  | .bad e a=>.bad e a
  | .ok l p=>match FD ⟨s,l,p⟩ goal with
   | .ok t _=>.ok l t
   | .bad k=>.bad 7 (FB ⟨s,l,p⟩ k)
   | .out=>.bad 0 0
def dX (r:qK) (w:World) (e:Ending) (w':World):Prop :=
 match r with
 | .bad err a=>∃ va n c,e=.returned (.tuple #[.slice va n c,.pointer none,qA err a])/\Below w.heap.size w w'
 | .ok l t=>∃ tv q,e=.returned (.tuple #[tv,p8 q,qA 0 0])/\w'.ownsRow w.heap.size 56 3 tv l.length (BF l)/\EA w' w.heap.size w'.heap.size q t/\Below w.heap.size w w'
theorem Fr.below_of {c:Nat}{w0 w w':World} (h:Fr [c] w w') (hb:Below w0.heap.size w0 w) (hc:w0.heap.size<=c):Below w0.heap.size w0 w' :=
 hb.trans ⟨h.os,h.tape,h.output,h.size,fun k hk=>h.block k (by have:=hb.size;omega) Cv⟩
theorem CD {lo sz n:Nat}{T:TypeId}{v:Value}{xs:List Value}{X:List Nat}{w w':World} (h:w.ownsRow lo T sz v n xs) (hf:Fr X w w') (hX:∀ b∈X,v.ownBlock≠some b):w'.ownsRow lo T sz v n xs:=by
 exact zbe
theorem YP {lo lo' sz n:Nat}{T:TypeId}{v:Value}{xs:List Value}{w:World} (h:w.ownsRow lo T sz v n xs) (hl:lo'<=lo):w.ownsRow lo' T sz v n xs :=
 ⟨h.1,h.2.imp id (fun⟨g,cap,cur,h1,h2,h3⟩=>⟨g,cap,cur,h1,An hl h2,h3⟩)⟩
theorem gY {s:List UInt8}{l:List Tk}{p:List Int}{w1 W:World}{ta pa:Option Addr}{tc pc lo c:Nat} (ht:w1.ownsRow lo 56 3 (.slice ta l.length tc) l.length (BF l)) (hp:w1.ownsRow lo 3 1 (.slice pa p.length pc) p.length (nG p)) (hf:jU s l p)
  (hF:Fr [] w1 W) (hc:w1.heap.size<=c) (hb:W.heap[c]?=some (.cells #[.string ⟨s.toArray⟩,.slice ta l.length tc,.slice pa p.length pc,i8 0,.bool false] 50 (0,0))) :
  Rd { s:=s,l:=l,pair:=p,ta:=ta,tcap:=tc,pa:=pa,pcap:=pc,zb:=0,zo:=none } c 0 false W:=by
 refine⟨hb,⟨fun i t h=>?_,hf.fits,I0⟩,⟨fun i x h=>?_,hf.same,hf.within⟩,Nat.zero_le _,fun o h=>Do⟩
 ·exact zba
 ·exact zb3
theorem xT {N:List UInt8->uH} (HN:LJ N) (goal:UInt8) (s:List UInt8) (w:World) (hw:NC w) :
  Calls Tryz.prog 19 #[.int .u8 (goal.toNat:Int),.string ⟨s.toArray⟩] w (dX (tD N goal s) w):=by
 have HNN:=hid HN;clear HN;have h6:=B8 w (.cells #[i8 0,i8 0] 28);have hB:=(N' w.heap.size w).alloc (C' _) (Obj.cells #[i8 0,i8 0] 28);have HW:=hid (hw.below hB);clear hw;by_cases hg:goal < 1∨4 < goal
 ·have hr:tD N goal s=.bad 1 0:=by unfold tD;rw [Bb hg]
  rw [hr];have hg2:((goal.toNat:Nat):Int) < 1∨4 < ((goal.toNat:Nat):Int):=by
   exact zcr
  clear hg hr h6 hB HNN
  go_in
  go_wp2_with fail
  all_goals go_returns
  all_goals exact⟨_,_,_,rfl,(N' _ _).alloc (C' _) _⟩
 ·have g1:decide (((goal.toNat:Nat):Int) < 1)=false:=by
   exact zd4
  have g2:decide (4 < ((goal.toNat:Nat):Int))=false:=by
   exact zd5
  have hrd:tD N goal s=match N s with
   | .bad e a=>.bad e a
   | .ok l p=>match FD ⟨s,l,p⟩ goal with
    | .ok t _=>.ok l t
    | .bad k=>.bad 7 (FB ⟨s,l,p⟩ k)
    | .out=>.bad 0 0:=by unfold tD;rw [Bc hg]
  clear hg;have HRD:=hid hrd;clear hrd
  go_in
  go_wp2_with fail;generalize w.alloc (.cells #[i8 0,i8 0] 28)=wA at *;refine (HNN.out.calls s wA HW.out).mono ?_;intro e w1 hA;cases hN:N s with
  | bad er a =>
   rw [hN] at hA;obtain⟨rfl,hb⟩:=hA;have hne:((er:Nat):Int)≠0:=by have:=HNN.out.bad s er a hN;omega
   have hne2:(((er:Nat):Int)==0)=false:=Ex
   have k6:=(hb.block _ (Ak.1 h6).1).trans h6;have hl6:w.heap.size < w1.heap.size:=(Ak.1 k6).1;have k7:(w1.alloc (.cells #[i8 (er:Int),i8 (a:Int)] 28)).heap[w.heap.size]?=some (.cells #[i8 0,i8 0] 28 (0,0)):=(((N' w1.heap.size w1).alloc (C' _) _).block _ hl6).trans k6;have k8:=B8 w1 (.cells #[i8 (er:Int),i8 (a:Int)] 28);have HBL:=hid (Az (hB.trans (hb.mono Ia)) hl6);have HB2:=(HBL.out.1.alloc Cs (Obj.cells #[i8 (er:Int),i8 (a:Int)] 28));have HS:=hid (show w.heap.size≠w1.heap.size by omega);unfold qA;go_wp2_with fail;generalize w1.alloc (.cells #[i8 (er:Int),i8 (a:Int)] 28)=w2 at *;have c1:w2.cell? (y8 w.heap.size 0)=some (i8 0):=by simp [World.cell?,k7]
   have c2:w2.cell? (y8 w.heap.size 1)=some (i8 0):=by simp [World.cell?,k7]
   have c3:w2.cell? (y8 w1.heap.size 0)=some (i8 (er:Int)):=by simp [World.cell?,k8]
   have c4:w2.cell? (y8 w1.heap.size 1)=some (i8 (a:Int)):=by simp [World.cell?,k8]
   have f1:w2.frozen? (y8 w.heap.size 0)=false:=by simp [World.frozen?,k7]
   have f2:w2.frozen? (y8 w.heap.size 1)=false:=by simp [World.frozen?,k7]
   have s1:=heap_setCell_same w2 w.heap.size 0 _ _ (i8 (er:Int)) k7;have s2:=heap_setCell_same (w2.setCell (y8 w.heap.size 0) (i8 (er:Int))) w.heap.size 1 _ _ (i8 (a:Int)) s1;simp only [Q',Z',Aa] at s2;have HB3:=hid ((HB2.setCell (p:=(y8 w.heap.size 0)) (C' _) (i8 (er:Int))).setCell (p:=(y8 w.heap.size 1)) (C' _) (i8 (a:Int)));clear s1 HB2 h6 hB hb k6 k7 k8;go_region
   all_goals (go_wp2_with fail)
   all_goals (
    generalize ((w2.setCell (y8 w.heap.size 0) (i8 (er:Int))).setCell (y8 w.heap.size 1) (i8 (a:Int)))=w3 at *;have q0:w3.cell? (y8 w.heap.size 0)=some (i8 (er:Int)):=F3
    have q1:w3.cell? (y8 w.heap.size 1)=some (i8 (a:Int)):=F3
    refine Ca (v:=.tuple #[.slice none 0 0,.pointer none,qA er a]) ?_ rfl ?_
    ·simp [results,Tryz.results19,go_sem,q0,q1,qA]
    ·rw [HRD.out,hN];exact⟨_,_,_,rfl,HB3.out.drew⟩)
  | ok l p =>
   rw [hN] at hA;obtain⟨tv,pv,rfl,ht,hp,hb⟩:=hA;obtain⟨ta,tc,rfl⟩:=xB ht;obtain⟨pa,pc,rfl⟩:=xB hp;have hf:=HNN.out.fit s l p hN;have k6:=(hb.block _ (Ak.1 h6).1).trans h6;have hl6:w.heap.size < w1.heap.size:=(Ak.1 k6).1;have HS:=hid (show w.heap.size≠w1.heap.size by omega);have hBw:=hB.trans (hb.mono Ia);have hb2:=((N' w1.heap.size w1).alloc (C' _) (Obj.cells #[i8 0,i8 0] 28)).alloc Cu (Obj.cells #[.string ⟨s.toArray⟩,.slice ta l.length tc,.slice pa p.length pc,i8 0,.bool false] 50);have k9:=B8 w1 (.cells #[i8 0,i8 0] 28);have kr:=B8 (w1.alloc (.cells #[i8 0,i8 0] 28)) (.cells #[.string ⟨s.toArray⟩,.slice ta l.length tc,.slice pa p.length pc,i8 0,.bool false] 50);have g9:=(((N' (w1.alloc (.cells #[i8 0,i8 0] 28)).heap.size _).alloc (C' _) (Obj.cells #[.string ⟨s.toArray⟩,.slice ta l.length tc,.slice pa p.length pc,i8 0,.bool false] 50)).block w1.heap.size Cu).trans k9;have g6:=(hb2.block _ hl6).trans k6;have hRd:=gY (c:=w1.heap.size+1) ht hp hf (Fr.below hb2) Cs (by simpa using kr);unfold qA;go_wp2_with fail;have hsz:((w1.alloc (.cells #[i8 0,i8 0] 28)).alloc (.cells #[.string ⟨s.toArray⟩,.slice ta l.length tc,.slice pa p.length pc,i8 0,.bool false] 50)).heap.size=w1.heap.size+1+1:=Cu
   have hrow:=CD ht (Fr.below (X:=[]) hb2) (fun b hb'=>by simp at hb');generalize ((w1.alloc (.cells #[i8 0,i8 0] 28)).alloc (.cells #[.string ⟨s.toArray⟩,.slice ta l.length tc,.slice pa p.length pc,i8 0,.bool false] 50))=W2 at *;have HTL:=hid ht.lt;have hwA:w.heap.size < wA.heap.size:=(Ak.1 h6).1;clear kr k9 ht hp;refine (XT (E:=({ s:=s,l:=l,pair:=p,ta:=ta,tcap:=tc,pa:=pa,pcap:=pc,zb:=0,zo:=none }:Ev)) (c:=w1.heap.size+1) hRd rfl hf.small goal).mono ?_;intro e w5 hA;unfold mF at hA;have hF52:∀ {x:R Tr},True:=trivial;cases hT:FD ({ s:=s,l:=l,pair:=p,ta:=ta,tcap:=tc,pa:=pa,pcap:=pc,zb:=0,zo:=none }:Ev).toEnv goal with
   | out=>exact absurd hT kQ
   | bad k =>
    rw [hT] at hA;obtain⟨rfl,hF5⟩:=hA;have HBL5:Below w.heap.size w w5:=(Fr.below_of (c:=w1.heap.size+1) hF5 (hBw.trans (hb2.mono Cs)) Cs);have j6:=hF5.at_ Cv g6;have j9:=hF5.at_ Cu g9;have c1:w5.cell? (y8 w.heap.size 0)=some (i8 0):=Ib
    have c2:w5.cell? (y8 w.heap.size 1)=some (i8 0):=Ib
    have c3:w5.cell? (y8 w1.heap.size 0)=some (i8 0):=Ic
    have c4:w5.cell? (y8 w1.heap.size 1)=some (i8 0):=Ic
    have f1:w5.frozen? (y8 w.heap.size 0)=false:=Hg
    have f2:w5.frozen? (y8 w.heap.size 1)=false:=Hg
    have f3:w5.frozen? (y8 w1.heap.size 0)=false:=Hh
    have f4:w5.frozen? (y8 w1.heap.size 1)=false:=Hh
    have n9:=heap_setCell_same (w5.setCell (y8 w1.heap.size 0) (i8 7)) w1.heap.size 1 _ _ (i8 ((FB ({ s:=s,l:=l,pair:=p,ta:=ta,tcap:=tc,pa:=pa,pcap:=pc,zb:=0,zo:=none }:Ev).toEnv k:Nat):Int)) (heap_setCell_same w5 w1.heap.size 0 _ _ (i8 7) j9);have n6:=(Ah (w5.setCell (y8 w1.heap.size 0) (i8 7)) (y8 w1.heap.size 1) (i8 ((FB ({ s:=s,l:=l,pair:=p,ta:=ta,tcap:=tc,pa:=pa,pcap:=pc,zb:=0,zo:=none }:Ev).toEnv k:Nat):Int)) w.heap.size HS.out).trans ((Ah w5 (y8 w1.heap.size 0) (i8 7) w.heap.size HS.out).trans j6);have HB7:=hid ((HBL5.setCell (p:=(y8 w1.heap.size 0)) (Nat.le_of_lt hl6) (i8 7)).setCell (p:=(y8 w1.heap.size 1)) (Nat.le_of_lt hl6) (i8 ((FB ({ s:=s,l:=l,pair:=p,ta:=ta,tcap:=tc,pa:=pa,pcap:=pc,zb:=0,zo:=none }:Ev).toEnv k:Nat):Int)));have hG:Fr [w1.heap.size] w5 ((w5.setCell (y8 w1.heap.size 0) (i8 7)).setCell (y8 w1.heap.size 1) (i8 ((FB ({ s:=s,l:=l,pair:=p,ta:=ta,tcap:=tc,pa:=pa,pcap:=pc,zb:=0,zo:=none }:Ev).toEnv k:Nat):Int))):=(NA w1.heap.size 0 w5 _).trans (NA w1.heap.size 1 _ _);simp only [Q',Z',Aa] at n9;have HS2:=hid (Ne.symm HS.out);clear j6 j9;unfold qA;go_wp2_with fail;generalize ((w5.setCell (y8 w1.heap.size 0) (i8 7)).setCell (y8 w1.heap.size 1) (i8 ((FB ({ s:=s,l:=l,pair:=p,ta:=ta,tcap:=tc,pa:=pa,pcap:=pc,zb:=0,zo:=none }:Ev).toEnv k:Nat):Int)))=w6 at *;clear c1 c2 c3 c4 f1 f2 f3 f4;have d1:w6.cell? (y8 w.heap.size 0)=some (i8 0):=Id
    have d2:w6.cell? (y8 w.heap.size 1)=some (i8 0):=Id
    have d3:w6.cell? (y8 w1.heap.size 0)=some (i8 7):=Ie
    have d4:w6.cell? (y8 w1.heap.size 1)=some (i8 ((FB ({ s:=s,l:=l,pair:=p,ta:=ta,tcap:=tc,pa:=pa,pcap:=pc,zb:=0,zo:=none }:Ev).toEnv k:Nat):Int)):=Ie
    have f1:w6.frozen? (y8 w.heap.size 0)=false:=Hi
    have f2:w6.frozen? (y8 w.heap.size 1)=false:=Hi
    have s2:=heap_setCell_same (w6.setCell (y8 w.heap.size 0) (i8 7)) w.heap.size 1 _ _ (i8 ((FB ({ s:=s,l:=l,pair:=p,ta:=ta,tcap:=tc,pa:=pa,pcap:=pc,zb:=0,zo:=none }:Ev).toEnv k:Nat):Int)) (heap_setCell_same w6 w.heap.size 0 _ _ (i8 7) n6);simp only [Q',Z',Aa] at s2;have HB8:=hid ((HB7.out.setCell (p:=(y8 w.heap.size 0)) (C' _) (i8 7)).setCell (p:=(y8 w.heap.size 1)) (C' _) (i8 ((FB ({ s:=s,l:=l,pair:=p,ta:=ta,tcap:=tc,pa:=pa,pcap:=pc,zb:=0,zo:=none }:Ev).toEnv k:Nat):Int)));have hH:Fr [w.heap.size] w6 ((w6.setCell (y8 w.heap.size 0) (i8 7)).setCell (y8 w.heap.size 1) (i8 ((FB ({ s:=s,l:=l,pair:=p,ta:=ta,tcap:=tc,pa:=pa,pcap:=pc,zb:=0,zo:=none }:Ev).toEnv k:Nat):Int))):=(NA w.heap.size 0 w6 _).trans (NA w.heap.size 1 _ _);have HFF:=hid (Az hG hH);clear n6 n9 hG hH;go_region
    all_goals (go_wp2_with fail)
    all_goals (
     generalize ((w6.setCell (y8 w.heap.size 0) (i8 7)).setCell (y8 w.heap.size 1) (i8 ((FB ({ s:=s,l:=l,pair:=p,ta:=ta,tcap:=tc,pa:=pa,pcap:=pc,zb:=0,zo:=none }:Ev).toEnv k:Nat):Int)))=w7 at *;have q0:w7.cell? (y8 w.heap.size 0)=some (i8 7):=F3
     have q1:w7.cell? (y8 w.heap.size 1)=some (i8 ((FB ({ s:=s,l:=l,pair:=p,ta:=ta,tcap:=tc,pa:=pa,pcap:=pc,zb:=0,zo:=none }:Ev).toEnv k:Nat):Int)):=F3
     refine Ca (v:=.tuple #[.slice ta l.length tc,.pointer none,.agg #[(i8 7),(i8 ((FB ({ s:=s,l:=l,pair:=p,ta:=ta,tcap:=tc,pa:=pa,pcap:=pc,zb:=0,zo:=none }:Ev).toEnv k:Nat):Int))]]) ?_ rfl ?_
     ·simp [results,Tryz.results19,go_sem,q0,q1]
     ·rw [HRD.out,hN];simp only [];rw [hT];exact⟨_,_,_,rfl,HB8.out.drew⟩)
   | ok t m =>
    rw [hT] at hA;obtain⟨q,rfl,hN5,hF5⟩:=hA;have HBL5:Below w.heap.size w w5:=(Fr.below_of (c:=w1.heap.size+1) hF5 (hBw.trans (hb2.mono Cs)) Cs);have HN5:=hid (Az hN5 (Az hrow (Az hF5 (Az hsz (Az hwA hl6)))));have j6:=hF5.at_ Cv g6;have j9:=hF5.at_ Cu g9;have c1:w5.cell? (y8 w.heap.size 0)=some (i8 0):=Ib
    have c2:w5.cell? (y8 w.heap.size 1)=some (i8 0):=Ib
    have c3:w5.cell? (y8 w1.heap.size 0)=some (i8 0):=Ic
    have c4:w5.cell? (y8 w1.heap.size 1)=some (i8 0):=Ic
    have f1:w5.frozen? (y8 w.heap.size 0)=false:=Hg
    have f2:w5.frozen? (y8 w.heap.size 1)=false:=Hg
    have f3:w5.frozen? (y8 w1.heap.size 0)=false:=Hh
    have f4:w5.frozen? (y8 w1.heap.size 1)=false:=Hh
    have n9:=heap_setCell_same (w5.setCell (y8 w1.heap.size 0) (i8 0)) w1.heap.size 1 _ _ (i8 0) (heap_setCell_same w5 w1.heap.size 0 _ _ (i8 0) j9);have n6:=(Ah (w5.setCell (y8 w1.heap.size 0) (i8 0)) (y8 w1.heap.size 1) (i8 0) w.heap.size HS.out).trans ((Ah w5 (y8 w1.heap.size 0) (i8 0) w.heap.size HS.out).trans j6);have HB7:=hid ((HBL5.setCell (p:=(y8 w1.heap.size 0)) (Nat.le_of_lt hl6) (i8 0)).setCell (p:=(y8 w1.heap.size 1)) (Nat.le_of_lt hl6) (i8 0));have hG:Fr [w1.heap.size] w5 ((w5.setCell (y8 w1.heap.size 0) (i8 0)).setCell (y8 w1.heap.size 1) (i8 0)):=(NA w1.heap.size 0 w5 _).trans (NA w1.heap.size 1 _ _);simp only [Q',Z',Aa] at n9;have HS2:=hid (Ne.symm HS.out);clear j6 j9;unfold qA;go_wp2_with fail;generalize ((w5.setCell (y8 w1.heap.size 0) (i8 0)).setCell (y8 w1.heap.size 1) (i8 0))=w6 at *;clear c1 c2 c3 c4 f1 f2 f3 f4;have d1:w6.cell? (y8 w.heap.size 0)=some (i8 0):=Id
    have d2:w6.cell? (y8 w.heap.size 1)=some (i8 0):=Id
    have d3:w6.cell? (y8 w1.heap.size 0)=some (i8 0):=Ie
    have d4:w6.cell? (y8 w1.heap.size 1)=some (i8 0):=Ie
    have f1:w6.frozen? (y8 w.heap.size 0)=false:=Hi
    have f2:w6.frozen? (y8 w.heap.size 1)=false:=Hi
    have s2:=heap_setCell_same (w6.setCell (y8 w.heap.size 0) (i8 0)) w.heap.size 1 _ _ (i8 0) (heap_setCell_same w6 w.heap.size 0 _ _ (i8 0) n6);simp only [Q',Z',Aa] at s2;have HB8:=hid ((HB7.out.setCell (p:=(y8 w.heap.size 0)) (C' _) (i8 0)).setCell (p:=(y8 w.heap.size 1)) (C' _) (i8 0));have hH:Fr [w.heap.size] w6 ((w6.setCell (y8 w.heap.size 0) (i8 0)).setCell (y8 w.heap.size 1) (i8 0)):=(NA w.heap.size 0 w6 _).trans (NA w.heap.size 1 _ _);have HFF:=hid (Az hG hH);clear n6 n9 hG hH;go_region
    all_goals (go_wp2_with fail)
    all_goals (
     generalize ((w6.setCell (y8 w.heap.size 0) (i8 0)).setCell (y8 w.heap.size 1) (i8 0))=w7 at *;have q0:w7.cell? (y8 w.heap.size 0)=some (i8 0):=F3
     have q1:w7.cell? (y8 w.heap.size 1)=some (i8 0):=F3
     refine Ca (v:=.tuple #[.slice ta l.length tc,p8 q,.agg #[(i8 0),(i8 0)]]) ?_ rfl ?_
     ·simp [results,Tryz.results19,go_sem,q0,q1]
     ·rw [HRD.out,hN];simp only [];rw [hT];obtain⟨z1,z2,z3,z4,z5,z6⟩:=HN5.out;obtain⟨y1,y2⟩:=HFF.out;refine⟨_,q,rfl,?_,?_,HB8.out.drew⟩
      ·refine YP (lo:=wA.heap.size) ?_ Cs;refine CD (CD (CD (CD z2 z3 ?_) y1 ?_) y2 ?_) (Fr.below (X:=[]) (N' _ _).drew) ?_
       ·exact zdl
       ·exact zdl
       ·exact zdl
       ·intro b hb' e;simp at hb'
      ·have e1:=z1.later y1 (fun k hk=>Dj) (C' _) y1.size;have e2:=e1.later y2 (fun k hk=>Dj) (C' _) y2.size;exact EA.kept (w:=w7) (w':=w7.drew) (fun _ _ _=>rfl) (show w.heap.size<=W2.heap.size by omega) (C' _) q t e2)
end
