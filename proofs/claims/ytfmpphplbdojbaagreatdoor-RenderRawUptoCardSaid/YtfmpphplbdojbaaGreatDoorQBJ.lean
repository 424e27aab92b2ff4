import Derived.Test.YtfmpphplbdojbaaGreatDoorQBC
import Derived.Defers
import Derived.Recover
import Derived.Test.YtfmpphplbdojbaaGreatDoorQAE
import Derived.Deep.CutBlock
import Derived.BigQuiet
import Derived.Test.YtfmpphplbdojbaaGreatDoorQBI
namespace Go.Proofs.YtfmpphplbdojbaaGreatDoor
open Lib(hid)
set_option linter.all false
set_option maxHeartbeats 40000000
set_option maxRecDepth 100000
section
open Go.RowKit
theorem dU (E:Ev) (E0:Env):aB E (kA E0 0):=by
 constructor <;> intros <;> rename_i h <;> exact absurd rfl h
theorem GT {E:Ev}{k:Nat} (hk:k≤1000000000000) (H:∀ (E':Ev) j,E'.toEnv=E.toEnv→j≤k→aB E' (kA E.toEnv j)):aB E (kA E.toEnv (k+1)):=by
 have HA:∀ j,j≤k→aB E (kA E.toEnv j):=fun j hj=>H E j rfl hj
 have HD:=HA k (Nat.le_refl _);have HG:∀ E':Ev,E'.toEnv=E.toEnv→aB E' (kA E.toEnv k):=fun E' he=>H E' k he (Nat.le_refl _)
 have HS:=ZF E.toEnv k;constructor
 case t =>
  intro f c n g w hf hp h hr;cases f with
  | group=>exact OQ HA (by omega) h hp.2 hr
  | fn=>exact YW HD h hr
  | signature=>exact mM HD h hr
  | params=>exact WP HA (by omega) h hr
  | tparams=>exact iO HA (by omega) h hr
  | names=>exact ZG HA hk h hr
  | union=>exact GQ HA hk h hr
  | typ=>exact uV HD h hr
  | typeName=>exact sM HA (by omega) h hr
  | exprs=>exact AQ HA hk h hr
  | types=>exact VQ HA hk h hr
  | expr=>exact XS HD h hr
  | unary=>exact qQ HD h hr
  | operand=>exact kO HD h hr
  | primary=>exact NN H h hr
  | elements=>exact EM HA (by omega) h hr
  | value=>exact NR HD h hr
  | stmts=>exact WQ HA hk h hr
  | block=>exact tR HD h hr
  | stmt=>exact YS HD h hr
  | declared=>exact wM HD h hp.2 hr
  | started=>exact rO HD h hp.2 hr
  | returned=>exact DM HD h hp.2 hr
  | branch=>exact RP h hp.2 hr
  | simple=>exact dQ HD h hr
  | ifs=>exact EV HD HS h hp.2 hr
  | switches=>exact FM HD HS h hp.2 hr
  | selects=>exact jO HD h hp.2 hr
  | fors=>exact jT HD HG HS h hp.2 hr
  | one o =>
   cases o with
   | expr=>exact HD.t .expr c n g w (by decide) (DA rfl h.at_) h hr
   | typ=>exact HD.t .typ c n g w (by decide) (DA rfl h.at_) h hr
   | param=>exact wR HD h hr
   | field=>exact mQ HD h hr
   | elem=>exact bT HD h hr
   | element=>exact gO HD h hr
   | importSpec=>exact EK h hr
   | constSpec=>exact wL HD h hr
   | typeSpec=>exact qM HD h hr
   | valueSpec=>exact UL HD h hr
   | tparam=>exact absurd rfl hf
   | call=>exact absurd rfl hf
  | file=>exact absurd rfl hf
  | fileImports _ _=>exact absurd rfl hf
  | fileDecls _ _ _=>exact absurd rfl hf
  | namesMore _=>exact absurd rfl hf
  | unionMore _=>exact absurd rfl hf
  | row _=>exact absurd rfl hf
  | members _ _=>exact absurd rfl hf
  | exprsMore _=>exact absurd rfl hf
  | typesMore _=>exact absurd rfl hf
  | binary _=>exact absurd rfl hf
  | binMore _ _ _=>exact absurd rfl hf
  | primMore _ _=>exact absurd rfl hf
  | dot _ _=>exact absurd rfl hf
  | call _ _=>exact absurd rfl hf
  | index _ _=>exact absurd rfl hf
  | indexMore _ _ _=>exact absurd rfl hf
  | slice _ _ _=>exact absurd rfl hf
  | stmtsMore _=>exact absurd rfl hf
  | rest _ _=>exact absurd rfl hf
  | clauses _ _=>exact absurd rfl hf
  | clausesMore _ _ _=>exact absurd rfl hf
  | overall _ _ _=>exact absurd rfl hf
  | cased s =>
   have hr2:PE (kA E.toEnv k) s n g≠.out:=hr
   show Calls _ (xD (.cased s)) _ _ (Ans E c g (PE (kA E.toEnv k) s n g) w)
   unfold PE at hr2 ⊢;by_cases h1:s=1
   ·subst h1;exact HD.t .exprs c n g w (by decide) (DA rfl h.at_) h hr2
   ·rw [if_neg h1] at hr2 ⊢;by_cases h2:s=2
    ·subst h2;exact HD.t .types c n g w (by decide) (DA rfl h.at_) h hr2
    ·rw [if_neg h2] at hr2 ⊢;have e:xD (.cased s)=xD .simple:=by simp only [xD];rw [if_neg h1,if_neg h2]
     rw [e];exact HD.t .simple c n g w (by decide) (DA rfl h.at_) h hr2
 case b=>exact fun least c n g w h1 h2 h hr=>CO HA least h1 h2 h hr
 case row=>exact fun fr c n w0 w p t0 h hn hr=>jW HD h hn hr
 case members =>
  intro kd o c n g w0 w p k2 wd fr t0 ho h hn hr;have hr2:((CB E.toEnv (kA E.toEnv k) kd o n g).andThen fun m n1=>(.ok (.mk k2 wd fr n1 [m]) n1:R Tr))≠.out:=fun e=>by
   have hr3:CB E.toEnv (kA E.toEnv k) kd o n g≠.out:=hr;cases hm:CB E.toEnv (kA E.toEnv k) kd o n g with
   | out=>exact hr3 hm
   | bad m=>rw [hm] at e;cases e
   | ok a m=>rw [hm] at e;cases e
  cases o with
  | field=>exact FI HA (by omega) h hn hr2
  | elem=>exact mJ HA (by omega) h hn hr2
  | _=>exact absurd ho (by decide)
 case dot=>exact fun fr x c n g w0 w p t0 kv q hlt h hn hr=>CV HD h hlt hn hr
 case call=>exact fun fr x c n g w0 w p t0 kv q hlt h hn hr=>aU HA hk h hn hr
 case index=>exact fun fr x c n g w0 w p t0 kv q hlt h hn hr=>uQ HA hk h hlt hn hr
 case slice=>exact fun fr x lo c n g w0 w p k2 t0 kv q ql h hn hr=>RQ HD h hn hr
 case rest=>exact fun fr left c n g w0 w p t0 ql h hn hr=>PT HD h hn hr
 case overall=>exact fun fr wd left c n g w0 w p k2 t0 ql h hn hr=>VN HD h hn hr
 case clauses=>exact fun kd sort c n g w hs h hr=>ZN HA hk hs h hr
theorem oP:∀ (k:Nat),k≤1000000000000→∀ E:Ev,aB E (kA E.toEnv k):=by
 intro k
 induction k using Nat.strongRecOn with
 | _ k ih =>
  intro hk E;cases k with
  | zero=>exact dU E E.toEnv
  | succ k =>
   refine GT (by omega) (fun E' j he hj=>?_);rw [← he];exact ih j (by omega) (by omega) E'
end
section
open Go.RowKit
variable {E:Ev}{S:AB}{c n k:Nat}{g:Bool}{w:World}
theorem sP {P:Program}{Q:Exit→Act→List Frame→World→Prop}{id:Nat}{d:Option Nat}{ty:TypeId}{pos:String}{c₀:Frame}{cs:List Frame}{a:Act}{v:Value}{older:List PanicEntry} (hm:c₀.mode=.panicking ({ v:=v,recovered:=false }::older))
    (h:Q .normal (a.put d v) ({ c₀ with mode:=.panicking ({ v:=v,recovered:=true }::older) }::cs) w) :
    (Code.region id #[{ dst:=d,op:=.call { callee:=.builtin .recover,args:=#[],argTypes:=#[] },type:=ty,pos:=pos,after:=#[],guard:=none }] false).wpS P Q a (c₀::cs) w:=by
  apply wpS_region;simp [wpOpsS,go_sem,recoverD,hm];exact h
theorem CK {P:Program}{Q:Exit→Act→List Frame→World→Prop}{id:Nat}{d:Option Nat}{ty:TypeId}{pos:String}{c₀:Frame}{cs:List Frame}{a:Act} (hm:c₀.mode=.returning) (h:Q .normal (a.put d .nilIface) (c₀::cs) w) :
    (Code.region id #[{ dst:=d,op:=.call { callee:=.builtin .recover,args:=#[],argTypes:=#[] },type:=ty,pos:=pos,after:=#[],guard:=none }] false).wpS P Q a (c₀::cs) w:=by
  apply wpS_region;simp [wpOpsS,go_sem,recoverD,hm];exact h
def FB (E:Env) (k:Nat):Nat:=match E.l[k]? with|some t=>t.fr|none=>E.s.length
theorem mT (p1 p2 p3:Addr) (w:World) :
    CallsD Tryz.prog 64 #[.pointer (some p1),.pointer (some p2),.pointer (some p3)] .returning w fun e u' w'=>e=.returned (.tuple #[])∧u'=.returning∧w'=w:=by
  refine callsD_of_wpS Tryz.func64 rfl fun c₀ cs hu=>?_
  simp only [Tryz.ntmps64,List.size_toArray,List.length_cons,List.length_nil,Nat.reduceAdd,Nat.reduceSub,Array.replicate_succ,
     Array.replicate_zero,List.push_toArray,List.append_toArray,List.nil_append,List.cons_append]
  refine wpS_seq (CK hu ?_);refine wpS_of_wp (w:=w) ?_;simp only [Act.put,List.setIfInBounds_toArray,List.set_cons_zero,List.set_cons_succ];go_wp2_with fail;exact⟨rfl,.returning,by rw [← hu],_,results_none rfl _ _ _,rfl,rfl,rfl⟩
theorem fQ (B1 B2 B3:Nat) (older:List PanicEntry) {E:Ev}{c n:Nat}{g:Bool} (w:World) (h:Rd E c n g w) (hz:E.zo=none) (hd:B1≠B2∧B1≠B3∧c < B2∧c < B3) (v2:Value) (x y:Int)
    (h1:w.cell? ⟨B1,0,none⟩=some (.pointer (some ⟨c,0,none⟩))) (h2:w.heap[B2]?=some (.cells #[v2] 51 (0,0))) (h3:w.heap[B3]?=some (.cells #[.int .i64 x,.int .i64 y] 35 (0,0))) :
    CallsD Tryz.prog 64 #[.pointer (some ⟨B1,0,none⟩),.pointer (some ⟨B2,0,none⟩),.pointer (some ⟨B3,0,none⟩)] (.panicking ({ v:=.iface 111 (.int .i64 (n:Int)),recovered:=false }::older)) w fun e u' w' =>
      e=.returned (.tuple #[])∧u'=.panicking ({ v:=.iface 111 (.int .i64 (n:Int)),recovered:=true }::older)∧Fr [B2,B3] w w'∧w'.heap[B2]?=some (.cells #[.pointer none] 51 (0,0))∧w'.heap[B3]?=some (.cells #[.int .i64 7,.int .i64 (FB E.toEnv n:Int)] 35 (0,0)):=by
  refine callsD_of_wpS Tryz.func64 rfl fun c₀ cs hu=>?_
  simp only [Tryz.ntmps64,List.size_toArray,List.length_cons,List.length_nil,Nat.reduceAdd,Nat.reduceSub,Array.replicate_succ,
     Array.replicate_zero,List.push_toArray,List.append_toArray,List.nil_append,List.cons_append]
  refine wpS_seq (sP hu ?_);refine wpS_of_wp (w:=w) ?_;simp only [Act.put,List.setIfInBounds_toArray,List.set_cons_zero,List.set_cons_succ];obtain⟨r0,r1,r2,r3,r4⟩:=h.cells;have c2:w.cell? ⟨B2,0,none⟩=some v2:=by simp [World.cell?,h2]
  have c3:w.cell? ⟨B3,0,none⟩=some (.int .i64 x):=by simp [World.cell?,h3]
  have c4:w.cell? ⟨B3,1,none⟩=some (.int .i64 y):=by simp [World.cell?,h3]
  have f2:w.frozen? ⟨B2,0,none⟩=false:=by simp [World.frozen?,h2]
  have f3:w.frozen? ⟨B3,0,none⟩=false:=by simp [World.frozen?,h3]
  have f4:w.frozen? ⟨B3,1,none⟩=false:=by simp [World.frozen?,h3]
  have hfa:∀ (x:Int) (w:World),Sem.run Tryz.prog (Instr.typeAssert (.iface 111 (.int .i64 x)) 20 111 true) w=.ok (.tuple #[.int .i64 x,.bool true]) w:=fun _ _=>by kernel_rfl
  have hne:B2≠B3:=by intro e;subst e;rw [h2] at h3;cases h3
  have hsm:=h.lie.small;have k2:=heap_setCell_same w B2 0 _ _ (.pointer none) h2;have k3:=heap_setCell_same (w.setCell ⟨B2,0,none⟩ (.pointer none)) B3 0 _ _ (.int .i64 7) ((Below.heap_setCell w ⟨B2,0,none⟩ (.pointer none) B3 (Ne.symm hne)).trans h3);have k4:=heap_setCell_same ((w.setCell ⟨B2,0,none⟩ (.pointer none)).setCell ⟨B3,0,none⟩ (.int .i64 7)) B3 1 _ _ (.int .i64 (E.s.length:Int)) k3;have k2':=(Below.heap_setCell ((w.setCell ⟨B2,0,none⟩ (.pointer none)).setCell ⟨B3,0,none⟩ (.int .i64 7)) ⟨B3,1,none⟩ (.int .i64 (E.s.length:Int)) B2 hne).trans ((Below.heap_setCell (w.setCell ⟨B2,0,none⟩ (.pointer none)) ⟨B3,0,none⟩ (.int .i64 7) B2 hne).trans k2);simp only [List.setIfInBounds_toArray,List.set_cons_zero,List.set_cons_succ] at k4 k2';have hF:Fr [B2,B3] w (((w.setCell ⟨B2,0,none⟩ (.pointer none)).setCell ⟨B3,0,none⟩ (.int .i64 7)).setCell ⟨B3,1,none⟩ (.int .i64 (E.s.length:Int))) :=
    (((NA B2 0 w _).weaken (fun k _ hk=>by simp at hk;simp [hk])).trans ((NA B3 0 _ _).weaken (fun k _ hk=>by simp at hk;simp [hk]))).trans ((NA B3 1 _ _).weaken (fun k _ hk=>by simp at hk;simp [hk]))
  have hR:=h.later hF (fun k hk=>by simp at hk;omega) (.inl hz);have g1:=hF.cell (a:=⟨B1,0,none⟩) (by simp;exact⟨hd.1,hd.2.1⟩) h1;generalize hw:((w.setCell ⟨B2,0,none⟩ (.pointer none)).setCell ⟨B3,0,none⟩ (.int .i64 7)).setCell ⟨B3,1,none⟩ (.int .i64 (E.s.length:Int))=wS at *;obtain⟨s0,s1,s2,s3,s4⟩:=hR.cells;have m4:wS.cell? ⟨B3,1,none⟩=some (.int .i64 (E.s.length:Int)):=by simp [World.cell?,k4]
  have mf:wS.frozen? ⟨B3,1,none⟩=false:=by simp [World.frozen?,k4]
  have HP:=hid (And.intro hF (And.intro k2' k4));clear hF k2 k3 k4 k2';cases hl:E.l[n]? with
  | none =>
    have hge:E.l.length≤n:=List.getElem?_eq_none_iff.1 hl;have hfa2:FB E.toEnv n=E.s.length:=by unfold FB;rw [hl]
    have hdec:decide ((n:Int) < (E.l.length:Int))=false:=by simp;omega
    go_wp2_with (simp only [hw]);exact⟨rfl,_,rfl,_,results_none rfl _ _ _,rfl,rfl,HP.out.1,HP.out.2.1,by rw [hfa2];exact HP.out.2.2⟩
  | some t =>
    have hlt:n < E.l.length:=(List.getElem?_eq_some_iff.1 hl).1;have hfa2:FB E.toEnv n=t.fr:=by unfold FB;rw [hl]
    have hdec:decide ((n:Int) < (E.l.length:Int))=true:=by simp;omega
    obtain⟨b,o,hta,hb,t0,t1,t2⟩:=hR.lie.toks n t hl;rw [hta] at s1;go_wp2_with (simp only [hw]);have q3:=heap_setCell_same wS B3 1 _ _ (.int .i64 (t.fr:Int)) HP.out.2.2;have q2:=(Below.heap_setCell wS ⟨B3,1,none⟩ (.int .i64 (t.fr:Int)) B2 hne).trans HP.out.2.1;simp only [List.setIfInBounds_toArray,List.set_cons_zero,List.set_cons_succ] at q3;exact⟨rfl,_,rfl,_,results_none rfl _ _ _,rfl,rfl,HP.out.1.trans ((NA B3 1 wS _).weaken (fun k _ hk=>by simp at hk;simp [hk])),q2,by rw [hfa2];exact q3⟩
end
section
open Go.RowKit
variable {E:Ev}{S:AB}{c n k:Nat}{g:Bool}{w:World}
def mF (E:Ev) (c:Nat) (goal:UInt8) (w:World) (e:Ending) (w':World):Prop :=
 match FD E.toEnv goal with
 | .ok t _=>∃ q,e=.returned (.tuple #[.pointer (some ⟨q,0,none⟩),qA 0 0])∧EA w' w.heap.size w'.heap.size q t∧Fr [c] w w'
 | .bad k=>e=.returned (.tuple #[.pointer none,qA 7 (FB E.toEnv k)])∧Fr [c] w w'
 | .out=>False
theorem gV (w:World) (o1 o2 o3:Obj):(((w.alloc o1).alloc o2).alloc o3).heap[w.heap.size]?=some o1∧(((w.alloc o1).alloc o2).alloc o3).heap[w.heap.size+1]?=some o2∧(((w.alloc o1).alloc o2).alloc o3).heap[w.heap.size+1+1]?=some o3 ∧
  Below w.heap.size w (((w.alloc o1).alloc o2).alloc o3)∧(((w.alloc o1).alloc o2).alloc o3).heap.size=w.heap.size+1+1+1:=by
 have s1:(w.alloc o1).heap.size=w.heap.size+1:=by simp
 have s2:((w.alloc o1).alloc o2).heap.size=w.heap.size+1+1:=by simp
 have a1:=heap_alloc_new w o1;have a2:=heap_alloc_new (w.alloc o1) o2;have a3:=heap_alloc_new ((w.alloc o1).alloc o2) o3;rw [s1] at a2;rw [s2] at a3;have b2:=(Below.refl (w.alloc o1).heap.size (w.alloc o1)).alloc (Nat.le_refl _) o2;have b3:=(Below.refl ((w.alloc o1).alloc o2).heap.size ((w.alloc o1).alloc o2)).alloc (Nat.le_refl _) o3;refine⟨(b3.block _ (by omega)).trans ((b2.block _ (by omega)).trans a1),(b3.block _ (by omega)).trans a2,a3,?_,by simp⟩;exact (((Below.refl w.heap.size w).alloc (Nat.le_refl _) o1).alloc (by omega) o2).alloc (by omega) o3
theorem yG {R:Ending→World→Prop}{tm:Array Value}{B1 B2 B3:Nat} (h:Rd E c n g w) (hz:E.zo=none) (hd:B1≠B2∧B1≠B3∧c < B2∧c < B3) (v2:Value) (h4:tm[4]?=some (.pointer (some ⟨B2,0,none⟩))) (h5:tm[5]?=some (.pointer (some ⟨B3,0,none⟩)))
  (h1:w.cell? ⟨B1,0,none⟩=some (.pointer (some ⟨c,0,none⟩))) (h2:w.heap[B2]?=some (.cells #[v2] 51 (0,0))) (h3:w.heap[B3]?=some (.cells #[.int .i64 0,.int .i64 0] 35 (0,0)))
  (hR:∀ w',Fr [B2,B3] w w'→R (.returned (.tuple #[.pointer none,qA 7 (FB E.toEnv n)])) w') :
  Leaves Tryz.prog Tryz.f43 tm R [{ target:=.fn (.func 64) #[.pointer (some ⟨B1,0,none⟩),.pointer (some ⟨B2,0,none⟩),.pointer (some ⟨B3,0,none⟩)],args:=#[] }] (.panicking [{ v:=.iface 111 (.int .i64 (n:Int)),recovered:=false }]) w:=by
 refine leaves_cons (f:=64) (args:=#[.pointer (some ⟨B1,0,none⟩),.pointer (some ⟨B2,0,none⟩),.pointer (some ⟨B3,0,none⟩)]) (by simp) (by exact cF (by kernel_rfl) _ _) ?_;refine (fQ B1 B2 B3 [] w h hz hd v2 0 0 h1 h2 h3).mono ?_;rintro e u' w'' ⟨rfl,rfl,hF,k2,k3⟩;have c2:w''.cell? ⟨B2,0,none⟩=some (.pointer none):=by simp [World.cell?,k2]
 have c3:w''.cell? ⟨B3,0,none⟩=some (.int .i64 7):=by simp [World.cell?,k3]
 have c4:w''.cell? ⟨B3,1,none⟩=some (.int .i64 (FB E.toEnv n:Int)):=by simp [World.cell?,k3]
 have:=hR w'' hF;refine⟨.tuple #[.pointer none,qA 7 (FB E.toEnv n)],?_,this⟩;simp [results,Tryz.results43,h4,h5,c2,c3,c4,go_sem,qA]
theorem gK {R:Ending→World→Prop}{tm:Array Value}{B1 B2 B3 q:Nat} (h4:tm[4]?=some (.pointer (some ⟨B2,0,none⟩))) (h5:tm[5]?=some (.pointer (some ⟨B3,0,none⟩)))
  (h2:w.heap[B2]?=some (.cells #[.pointer (some ⟨q,0,none⟩)] 51 (0,0))) (h3:w.heap[B3]?=some (.cells #[.int .i64 0,.int .i64 0] 35 (0,0))) (hR:R (.returned (.tuple #[.pointer (some ⟨q,0,none⟩),qA 0 0])) w) :
  Leaves Tryz.prog Tryz.f43 tm R [{ target:=.fn (.func 64) #[.pointer (some ⟨B1,0,none⟩),.pointer (some ⟨B2,0,none⟩),.pointer (some ⟨B3,0,none⟩)],args:=#[] }] .returning w:=by
 refine leaves_cons (f:=64) (args:=#[.pointer (some ⟨B1,0,none⟩),.pointer (some ⟨B2,0,none⟩),.pointer (some ⟨B3,0,none⟩)]) (by simp) (by exact cF (by kernel_rfl) _ _) ?_;refine (mT ⟨B1,0,none⟩ ⟨B2,0,none⟩ ⟨B3,0,none⟩ w).mono ?_;rintro e u' w'' ⟨rfl,rfl,rfl⟩;have c2:w''.cell? ⟨B2,0,none⟩=some (.pointer (some ⟨q,0,none⟩)):=by simp [World.cell?,h2]
 have c3:w''.cell? ⟨B3,0,none⟩=some (.int .i64 0):=by simp [World.cell?,h3]
 have c4:w''.cell? ⟨B3,1,none⟩=some (.int .i64 0):=by simp [World.cell?,h3]
 refine⟨.tuple #[.pointer (some ⟨q,0,none⟩),qA 0 0],?_,hR⟩;simp [results,Tryz.results43,h4,h5,c2,c3,c4,go_sem,qA]
theorem TC {b i:Nat}{cs:Array Value}{v:Value}{tt:TypeId} (h:w.heap[b]?=some (.cells cs tt (0,0))) (hv:cs[i]?=some v):w.setCell ⟨b,i,none⟩ v=w:=by
 have hi:i < cs.size:=(Array.getElem?_eq_some_iff.1 hv).1;have hc:cs.setIfInBounds i v=cs:=by
  apply Array.ext_getElem?;intro j;by_cases e:i=j
  ·subst e;rw [Array.getElem?_setIfInBounds_self_of_lt hi,hv]
  ·rw [Array.getElem?_setIfInBounds_ne e]
 have hh:(w.setCell ⟨b,i,none⟩ v).heap=w.heap:=by
  apply Array.ext_getElem?;intro j;rcases Nat.decEq j b with hne|rfl
  ·exact Below.heap_setCell _ _ _ _ hne
  ·rw [heap_setCell_same w j i _ _ _ h,h,hc]
 have h2:w.setCell ⟨b,i,none⟩ v={ w with heap:=(w.setCell ⟨b,i,none⟩ v).heap }:=rfl;rw [h2,hh]
theorem Ans.up_inv {T:R Tr}{w':World} (h:Ans E c g T w (Up k) w'):T=.bad k∧(∃ g',Rd E c k g' w')∧Fr [c] w w':=by
 cases T with
 | ok t m=>obtain⟨q,e,_⟩:=h;cases e
 | out=>exact h.elim
 | bad m =>
  obtain⟨e,h1,h2⟩:=h;have e2:((k:Nat):Int)=((m:Nat):Int):=by simpa [Up] using e
  have e3:k=m:=by omega
  subst e3;exact⟨rfl,h1,h2⟩
theorem AO {goal:UInt8}{tm:Array Value}{t:Tr}{q:Nat}{wB wc w':World} (hA:Ans E c false (DK E.toEnv goal t n) wc (Up k) w')
  (HN:EA wc wB.heap.size wc.heap.size q t∧Fr [c,w.heap.size+1] wB wc∧wc.heap[w.heap.size+1]?=some (.cells #[.pointer (some ⟨q,0,none⟩)] 51 (0,0))∧wc.heap[w.heap.size+1+1]?=some (.cells #[.int .i64 0,.int .i64 0] 35 (0,0)))
  (ht:FD E.toEnv goal=DK E.toEnv goal t n) (HB:wB.heap[w.heap.size]?=some (.cells #[.pointer (some ⟨c,0,none⟩)] 54 (0,0))∧wB.heap[w.heap.size+1]?=some (.cells #[.pointer none] 51 (0,0))∧wB.heap[w.heap.size+1+1]?=some (.cells #[.int .i64 0,.int .i64 0] 35 (0,0))∧wB.heap.size=w.heap.size+1+1+1∧c < w.heap.size)
  (HF:Fr [c] w wB) (c1:wc.cell? ⟨w.heap.size,0,none⟩=some (.pointer (some ⟨c,0,none⟩))) (hz:E.zo=none) (h4:tm[4]?=some (.pointer (some ⟨w.heap.size+1,0,none⟩))) (h5:tm[5]?=some (.pointer (some ⟨w.heap.size+1+1,0,none⟩))) :
  Leaves Tryz.prog Tryz.f43 tm (mF E c goal w) [{ target:=.fn (.func 64) #[.pointer (some ⟨w.heap.size,0,none⟩),.pointer (some ⟨w.heap.size+1,0,none⟩),.pointer (some ⟨w.heap.size+1+1,0,none⟩)],args:=#[] }] (.panicking [{ v:=.iface 111 (.int .i64 (k:Int)),recovered:=false }]) w':=by
 obtain⟨e,⟨g',q1⟩,q3⟩:=hA.up_inv;obtain⟨hN,hF,h2,h3⟩:=HN;obtain⟨_,_,_,hsz,hcw⟩:=HB;refine yG q1 hz ⟨by omega,by omega,by omega,by omega⟩ (.pointer (some ⟨q,0,none⟩)) h4 h5 (q3.cell (a:=⟨w.heap.size,0,none⟩) (by simp;omega) c1) (q3.at_ (by simp;omega) h2) (q3.at_ (by simp;omega) h3) ?_;intro w2 hF2;unfold mF;rw [ht,e];exact⟨rfl,((HF.trans' hF (fun i hi=>by simp at hi;simp;omega)).trans q3).trans' hF2 (fun i hi=>.inr (by simp at hi;omega))⟩
theorem sO {w0:World}{P:World→Prop}{T X:R Tr} (h:Hid (Sx E c n g w0 P T X w)) (m:Nat):Hid (Sx E c n g w0 P T X (w.drewN m)):=h.out.below (below_drewN (Below.refl _ _) m)
theorem bK {goal:UInt8}{t:Tr}{q m:Nat}{wB wc w':World} (ht:FD E.toEnv goal=DK E.toEnv goal t n) (hT:DK E.toEnv goal t n=.ok t m) (hN:EA wc wB.heap.size wc.heap.size q t) (hF:Fr [c,w.heap.size+1] wB wc) (HF:Fr [c] w wB) (h8:Fr [c] wc w') (hs:w.heap.size+1+1+1≤wB.heap.size) (hlo:c < w.heap.size:=by assumption) :
  mF E c goal w (.returned (.tuple #[.pointer (some ⟨q,0,none⟩),qA 0 0])) w'.drew:=by
 unfold mF;rw [ht,hT];have hN2:=hN.later h8 (fun k hk=>by simp at hk;omega) (Nat.le_refl _) h8.size;exact⟨q,rfl,EA.kept (w:=w') (w':=w'.drew) (fun _ _ _=>rfl) (show w.heap.size≤wB.heap.size by omega) (Nat.le_refl _) q t hN2,((HF.trans' hF (fun i hi=>by simp at hi;simp;omega)).trans h8).trans (lA c (Below.refl _ _).drew)⟩
theorem OK {goal:UInt8}{k:Nat} (h:¬ goal=UInt8.ofNat k) (hk:k < 256):(((goal.toNat:Nat):Int)==((k:Nat):Int))=false:=by
 rw [beq_eq_false_iff_ne];intro e;apply h;have e2:goal.toNat=k:=by omega
 rw [← e2];simp
theorem PS (h:Rd E c 0 false w) (hlen:E.l.length≤1000000) (hne:(kA E.toEnv (OC E.toEnv)).t .file 0 false≠.out) :
  Calls Tryz.prog 68 #[.pointer (some ⟨c,0,none⟩)] w (Ans E c false ((kA E.toEnv (OC E.toEnv)).t .file 0 false) w) :=
 wT (k:=20*E.l.length+19) (fun j hj=>oP j (by omega) E) (by omega) h hne
theorem XT (h:Rd E c 0 false w) (hz:E.zo=none) (hlen:E.l.length≤1000000) (goal:UInt8) :
  Calls Tryz.prog 43 #[.pointer (some ⟨c,0,none⟩),.int .u8 (goal.toNat:Int)] w (mF E c goal w):=by
 have HD:=hid (oP (OC E.toEnv) (by unfold OC;omega) E);have hne:=hid (LL (E:=E.toEnv) goal);have hmf:∀ (fn:Fn) (first cap:Array Value) (w:World),(Instr.makeFunc fn first cap).run Tryz.prog w=.ok (.func fn first cap) w:=fun _ _ _ _=>rfl
 obtain⟨b1,b2,b3,hB,hsz⟩:=gV w (.cells #[.pointer (some ⟨c,0,none⟩)] 54) (.cells #[.pointer none] 51) (.cells #[.int .i64 0,.int .i64 0] 35);have HR:=hid (h.below hB);have HF:=hid (lA c hB);have hcw:=h.lt;clear h
 go_enter_defers Tryz.func43,Tryz.ntmps43
 go_upto_block 0 with fail
 generalize (((w.alloc (.cells #[.pointer (some ⟨c,0,none⟩)] 54)).alloc (.cells #[.pointer none] 51)).alloc (.cells #[.int .i64 0,.int .i64 0] 35))=wB at *;have hc1:wB.cell? ⟨w.heap.size,0,none⟩=some (.pointer (some ⟨c,0,none⟩)):=by simp [World.cell?,b1]
 have HB:=hid (And.intro b1 (And.intro b2 (And.intro b3 (And.intro hsz hcw))));clear b1 b2 b3 hB hsz hcw
 go_cut [] from 8 (fun wx=>∃ t n q,(kA E.toEnv (OC E.toEnv)).t (IC goal) 0 false=.ok t n∧Rd E c n false wx∧EA wx wB.heap.size wx.heap.size q t∧Fr [c,w.heap.size+1] wB wx∧wx.heap[w.heap.size+1]?=some (.cells #[.pointer (some ⟨q,0,none⟩)] 51 (0,0)))
 case first =>
  by_cases e1:goal=1
  ·subst e1;have hg:IC 1=.typ:=by unfold IC;rfl
   rw [hg] at hne;go_wp2_with fail;refine (HD.out.t .typ c 0 false wB (by decide) (DA rfl (Nat.zero_le _)) HR.out hne.out).mono ?_;intro e w5 hA;cases hs:(kA E.toEnv (OC E.toEnv)).t .typ 0 false with
   | out=>exact absurd hs hne.out
   | ok t n =>
    rw [hs] at hA;obtain⟨q,rfl,q1,q2,q3⟩:=hA;have h2:=q3.at_ (by simp;have:=HB.out.2.2.2.2;omega) HB.out.2.1;have c2:w5.cell? ⟨w.heap.size+1,0,none⟩=some (.pointer none):=by simp [World.cell?,h2]
    have f2:w5.frozen? ⟨w.heap.size+1,0,none⟩=false:=by simp [World.frozen?,h2]
    have k2:=heap_setCell_same w5 (w.heap.size+1) 0 _ _ (.pointer (some ⟨q,0,none⟩)) h2;have hF:=NA (w.heap.size+1) 0 w5 (.pointer (some ⟨q,0,none⟩));have hl:c < w.heap.size+1:=by have:=HB.out.2.2.2.2;omega
    have hz9:wB.heap.size=w.heap.size+1+1+1:=HB.out.2.2.2.1;have HZ:Hid (∃ t9 n9 q9,(kA E.toEnv (OC E.toEnv)).t (IC 1) 0 false=.ok t9 n9∧Rd E c n9 false (w5.setCell ⟨w.heap.size+1,0,none⟩ (.pointer (some ⟨q,0,none⟩)))∧EA (w5.setCell ⟨w.heap.size+1,0,none⟩ (.pointer (some ⟨q,0,none⟩))) wB.heap.size (w5.setCell ⟨w.heap.size+1,0,none⟩ (.pointer (some ⟨q,0,none⟩))).heap.size q9 t9∧Fr [c,w.heap.size+1] wB (w5.setCell ⟨w.heap.size+1,0,none⟩ (.pointer (some ⟨q,0,none⟩)))∧(w5.setCell ⟨w.heap.size+1,0,none⟩ (.pointer (some ⟨q,0,none⟩))).heap[w.heap.size+1]?=some (.cells #[.pointer (some ⟨q9,0,none⟩)] 51 (0,0))) :=
     ⟨t,n,q,by rw [hg];exact hs,q1.later hF (fun k hk=>by simp at hk;omega) (.inl hz),q2.later hF (fun k hk=>by simp at hk;omega) (Nat.le_refl _) hF.size,(q3.weaken (fun k _ hk=>by simp at hk;simp [hk])).trans (hF.weaken (fun k _ hk=>by simp at hk;simp [hk])),k2⟩
    clear hs q1 q2 q3 h2 k2 hF hl hz9;go_wp2_with fail
    go_meet
    case rel=>exact HZ.out
   | bad k =>
    rw [hs] at hA;obtain⟨rfl,⟨g',q1⟩,q3⟩:=hA;refine yG q1 hz ⟨by omega,by omega,by have:=HB.out.2.2.2.2;omega,by have:=HB.out.2.2.2.2;omega⟩ (.pointer none) rfl rfl (q3.cell (a:=⟨w.heap.size,0,none⟩) (by simp;have:=HB.out.2.2.2.2;omega) hc1) (q3.at_ (by simp;have:=HB.out.2.2.2.2;omega) HB.out.2.1) (q3.at_ (by simp;have:=HB.out.2.2.2.2;omega) HB.out.2.2.1) ?_;intro w' hF;have ht:FD E.toEnv 1=.bad k:=by unfold FD;rw [hg,hs];rfl
    unfold mF;rw [ht];exact⟨rfl,(HF.out.trans q3).trans' hF (fun i hi=>.inr (by simp at hi;omega))⟩
  have g1:(((goal.toNat:Nat):Int)==1)=false:=OK (k:=1) e1 (by omega);by_cases e2:goal=2
  ·subst e2;have hg:IC 2=.expr:=by unfold IC;rfl
   rw [hg] at hne;go_wp2_with fail;refine (HD.out.t .expr c 0 false wB (by decide) (DA rfl (Nat.zero_le _)) HR.out hne.out).mono ?_;intro e w5 hA;cases hs:(kA E.toEnv (OC E.toEnv)).t .expr 0 false with
   | out=>exact absurd hs hne.out
   | ok t n =>
    rw [hs] at hA;obtain⟨q,rfl,q1,q2,q3⟩:=hA;have h2:=q3.at_ (by simp;have:=HB.out.2.2.2.2;omega) HB.out.2.1;have c2:w5.cell? ⟨w.heap.size+1,0,none⟩=some (.pointer none):=by simp [World.cell?,h2]
    have f2:w5.frozen? ⟨w.heap.size+1,0,none⟩=false:=by simp [World.frozen?,h2]
    have k2:=heap_setCell_same w5 (w.heap.size+1) 0 _ _ (.pointer (some ⟨q,0,none⟩)) h2;have hF:=NA (w.heap.size+1) 0 w5 (.pointer (some ⟨q,0,none⟩));have hl:c < w.heap.size+1:=by have:=HB.out.2.2.2.2;omega
    have hz9:wB.heap.size=w.heap.size+1+1+1:=HB.out.2.2.2.1;have HZ:Hid (∃ t9 n9 q9,(kA E.toEnv (OC E.toEnv)).t (IC 2) 0 false=.ok t9 n9∧Rd E c n9 false (w5.setCell ⟨w.heap.size+1,0,none⟩ (.pointer (some ⟨q,0,none⟩)))∧EA (w5.setCell ⟨w.heap.size+1,0,none⟩ (.pointer (some ⟨q,0,none⟩))) wB.heap.size (w5.setCell ⟨w.heap.size+1,0,none⟩ (.pointer (some ⟨q,0,none⟩))).heap.size q9 t9∧Fr [c,w.heap.size+1] wB (w5.setCell ⟨w.heap.size+1,0,none⟩ (.pointer (some ⟨q,0,none⟩)))∧(w5.setCell ⟨w.heap.size+1,0,none⟩ (.pointer (some ⟨q,0,none⟩))).heap[w.heap.size+1]?=some (.cells #[.pointer (some ⟨q9,0,none⟩)] 51 (0,0))) :=
     ⟨t,n,q,by rw [hg];exact hs,q1.later hF (fun k hk=>by simp at hk;omega) (.inl hz),q2.later hF (fun k hk=>by simp at hk;omega) (Nat.le_refl _) hF.size,(q3.weaken (fun k _ hk=>by simp at hk;simp [hk])).trans (hF.weaken (fun k _ hk=>by simp at hk;simp [hk])),k2⟩
    clear hs q1 q2 q3 h2 k2 hF hl hz9;go_wp2_with fail
    go_meet
    case rel=>exact HZ.out
   | bad k =>
    rw [hs] at hA;obtain⟨rfl,⟨g',q1⟩,q3⟩:=hA;refine yG q1 hz ⟨by omega,by omega,by have:=HB.out.2.2.2.2;omega,by have:=HB.out.2.2.2.2;omega⟩ (.pointer none) rfl rfl (q3.cell (a:=⟨w.heap.size,0,none⟩) (by simp;have:=HB.out.2.2.2.2;omega) hc1) (q3.at_ (by simp;have:=HB.out.2.2.2.2;omega) HB.out.2.1) (q3.at_ (by simp;have:=HB.out.2.2.2.2;omega) HB.out.2.2.1) ?_;intro w' hF;have ht:FD E.toEnv 2=.bad k:=by unfold FD;rw [hg,hs];rfl
    unfold mF;rw [ht];exact⟨rfl,(HF.out.trans q3).trans' hF (fun i hi=>.inr (by simp at hi;omega))⟩
  have g2:(((goal.toNat:Nat):Int)==2)=false:=OK (k:=2) e2 (by omega);by_cases e3:goal=3
  ·subst e3;have hg:IC 3=.stmts:=by unfold IC;rfl
   rw [hg] at hne;go_wp2_with fail;refine (HD.out.t .stmts c 0 false wB (by decide) (DA rfl (Nat.zero_le _)) HR.out hne.out).mono ?_;intro e w5 hA;cases hs:(kA E.toEnv (OC E.toEnv)).t .stmts 0 false with
   | out=>exact absurd hs hne.out
   | ok t n =>
    rw [hs] at hA;obtain⟨q,rfl,q1,q2,q3⟩:=hA;have h2:=q3.at_ (by simp;have:=HB.out.2.2.2.2;omega) HB.out.2.1;have c2:w5.cell? ⟨w.heap.size+1,0,none⟩=some (.pointer none):=by simp [World.cell?,h2]
    have f2:w5.frozen? ⟨w.heap.size+1,0,none⟩=false:=by simp [World.frozen?,h2]
    have k2:=heap_setCell_same w5 (w.heap.size+1) 0 _ _ (.pointer (some ⟨q,0,none⟩)) h2;have hF:=NA (w.heap.size+1) 0 w5 (.pointer (some ⟨q,0,none⟩));have hl:c < w.heap.size+1:=by have:=HB.out.2.2.2.2;omega
    have hz9:wB.heap.size=w.heap.size+1+1+1:=HB.out.2.2.2.1;have HZ:Hid (∃ t9 n9 q9,(kA E.toEnv (OC E.toEnv)).t (IC 3) 0 false=.ok t9 n9∧Rd E c n9 false (w5.setCell ⟨w.heap.size+1,0,none⟩ (.pointer (some ⟨q,0,none⟩)))∧EA (w5.setCell ⟨w.heap.size+1,0,none⟩ (.pointer (some ⟨q,0,none⟩))) wB.heap.size (w5.setCell ⟨w.heap.size+1,0,none⟩ (.pointer (some ⟨q,0,none⟩))).heap.size q9 t9∧Fr [c,w.heap.size+1] wB (w5.setCell ⟨w.heap.size+1,0,none⟩ (.pointer (some ⟨q,0,none⟩)))∧(w5.setCell ⟨w.heap.size+1,0,none⟩ (.pointer (some ⟨q,0,none⟩))).heap[w.heap.size+1]?=some (.cells #[.pointer (some ⟨q9,0,none⟩)] 51 (0,0))) :=
     ⟨t,n,q,by rw [hg];exact hs,q1.later hF (fun k hk=>by simp at hk;omega) (.inl hz),q2.later hF (fun k hk=>by simp at hk;omega) (Nat.le_refl _) hF.size,(q3.weaken (fun k _ hk=>by simp at hk;simp [hk])).trans (hF.weaken (fun k _ hk=>by simp at hk;simp [hk])),k2⟩
    clear hs q1 q2 q3 h2 k2 hF hl hz9;go_wp2_with fail
    go_meet
    case rel=>exact HZ.out
   | bad k =>
    rw [hs] at hA;obtain⟨rfl,⟨g',q1⟩,q3⟩:=hA;refine yG q1 hz ⟨by omega,by omega,by have:=HB.out.2.2.2.2;omega,by have:=HB.out.2.2.2.2;omega⟩ (.pointer none) rfl rfl (q3.cell (a:=⟨w.heap.size,0,none⟩) (by simp;have:=HB.out.2.2.2.2;omega) hc1) (q3.at_ (by simp;have:=HB.out.2.2.2.2;omega) HB.out.2.1) (q3.at_ (by simp;have:=HB.out.2.2.2.2;omega) HB.out.2.2.1) ?_;intro w' hF;have ht:FD E.toEnv 3=.bad k:=by unfold FD;rw [hg,hs];rfl
    unfold mF;rw [ht];exact⟨rfl,(HF.out.trans q3).trans' hF (fun i hi=>.inr (by simp at hi;omega))⟩
  have g3:(((goal.toNat:Nat):Int)==3)=false:=OK (k:=3) e3 (by omega);have hg:IC goal=.file:=by unfold IC;simp [e1,e2,e3]
  rw [hg] at hne;go_wp2_with fail;refine (PS HR.out hlen hne.out).mono ?_;intro e w5 hA;cases hs:(kA E.toEnv (OC E.toEnv)).t .file 0 false with
  | out=>exact absurd hs hne.out
  | ok t n =>
   rw [hs] at hA;obtain⟨q,rfl,q1,q2,q3⟩:=hA;have h2:=q3.at_ (by simp;have:=HB.out.2.2.2.2;omega) HB.out.2.1;have c2:w5.cell? ⟨w.heap.size+1,0,none⟩=some (.pointer none):=by simp [World.cell?,h2]
   have f2:w5.frozen? ⟨w.heap.size+1,0,none⟩=false:=by simp [World.frozen?,h2]
   have k2:=heap_setCell_same w5 (w.heap.size+1) 0 _ _ (.pointer (some ⟨q,0,none⟩)) h2;have hF:=NA (w.heap.size+1) 0 w5 (.pointer (some ⟨q,0,none⟩));have hl:c < w.heap.size+1:=by have:=HB.out.2.2.2.2;omega
   have hz9:wB.heap.size=w.heap.size+1+1+1:=HB.out.2.2.2.1;have HZ:Hid (∃ t9 n9 q9,(kA E.toEnv (OC E.toEnv)).t (IC goal) 0 false=.ok t9 n9∧Rd E c n9 false (w5.setCell ⟨w.heap.size+1,0,none⟩ (.pointer (some ⟨q,0,none⟩)))∧EA (w5.setCell ⟨w.heap.size+1,0,none⟩ (.pointer (some ⟨q,0,none⟩))) wB.heap.size (w5.setCell ⟨w.heap.size+1,0,none⟩ (.pointer (some ⟨q,0,none⟩))).heap.size q9 t9∧Fr [c,w.heap.size+1] wB (w5.setCell ⟨w.heap.size+1,0,none⟩ (.pointer (some ⟨q,0,none⟩)))∧(w5.setCell ⟨w.heap.size+1,0,none⟩ (.pointer (some ⟨q,0,none⟩))).heap[w.heap.size+1]?=some (.cells #[.pointer (some ⟨q9,0,none⟩)] 51 (0,0))) :=
    ⟨t,n,q,by rw [hg];exact hs,q1.later hF (fun k hk=>by simp at hk;omega) (.inl hz),q2.later hF (fun k hk=>by simp at hk;omega) (Nat.le_refl _) hF.size,(q3.weaken (fun k _ hk=>by simp at hk;simp [hk])).trans (hF.weaken (fun k _ hk=>by simp at hk;simp [hk])),k2⟩
   clear hs q1 q2 q3 h2 k2 hF hl hz9;go_wp2_with fail
   go_meet
   case rel=>exact HZ.out
  | bad k =>
   rw [hs] at hA;obtain⟨rfl,⟨g',q1⟩,q3⟩:=hA;refine yG q1 hz ⟨by omega,by omega,by have:=HB.out.2.2.2.2;omega,by have:=HB.out.2.2.2.2;omega⟩ (.pointer none) rfl rfl (q3.cell (a:=⟨w.heap.size,0,none⟩) (by simp;have:=HB.out.2.2.2.2;omega) hc1) (q3.at_ (by simp;have:=HB.out.2.2.2.2;omega) HB.out.2.1) (q3.at_ (by simp;have:=HB.out.2.2.2.2;omega) HB.out.2.2.1) ?_;intro w' hF;have ht:FD E.toEnv goal=.bad k:=by unfold FD;rw [hg,hs];rfl
   unfold mF;rw [ht];exact⟨rfl,(HF.out.trans q3).trans' hF (fun i hi=>.inr (by simp at hi;omega))⟩
 case rest =>
  obtain⟨t,n,q,hs,hR,hN,hF,h2⟩:=hcut;have ht:FD E.toEnv goal=DK E.toEnv goal t n:=by unfold FD;rw [hs];rfl
  have h3:=hF.at_ (k:=w.heap.size+1+1) (by simp;have:=HB.out.2.2.2.2;omega) HB.out.2.2.1;have c1:=hF.cell (a:=⟨w.heap.size,0,none⟩) (by simp;have:=HB.out.2.2.2.2;omega) hc1;have HS:=Sx.start (T:=DK E.toEnv goal t n) hR BS rfl;have HN:=hid (And.intro hN (And.intro hF (And.intro h2 h3)));obtain⟨_,r1,_,r3,_⟩:=hR.cells;have hsm:=hR.lie.small;have hat:=hR.at_;have hwr:IntKind.i64.wrap ((E.l.length:Int) - 1)=(E.l.length:Int) - 1:=by simp [IntKind.wrap,IntKind.bits,IntKind.signed];omega
  conv at HS=>arg 1;arg 8;unfold DK
  clear hR hN hF h2 h3;by_cases hle:goal≤2
  ·have hd:decide (((goal.toNat:Nat):Int)≤2)=true:=by simp;exact Int.ofNat_le.2 (UInt8.le_iff_toNat_le.1 hle)
   by_cases heq:n+1=E.l.length
   ·have hq:(((n:Nat):Int)==(E.l.length:Int) - 1)=true:=by simp;omega
    rw [if_pos ⟨hle,heq⟩] at HS;go_wp2_with fail;go_big_quiet (fail);have HS2:=sO HS nq;clear HS;go_wp2_with fail;refine nO HS2 ?_;intro n2 bb w7 hm H7;clear HS2;simp only [← hm] at H7;clear hm;have m1:=H7.out.fr.cell (a:=⟨w.heap.size,0,none⟩) (by simp;have:=HB.out.2.2.2.2;omega) c1;go_wp2_with fail;cases he:E.ended n2 with
    | true =>
     refine AD H7 true he ?_;intro w8 H8;clear H7;have hF8:=H8.out.fr;have m1:=hF8.cell (a:=⟨w.heap.size,0,none⟩) (by simp;have:=HB.out.2.2.2.2;omega) c1;have m2:=hF8.at_ (k:=w.heap.size+1) (by simp;have:=HB.out.2.2.2.2;omega) HN.out.2.2.1;have m3:=hF8.at_ (k:=w.heap.size+1+1) (by simp;have:=HB.out.2.2.2.2;omega) HN.out.2.2.2;have d2:w8.cell? ⟨w.heap.size+1,0,none⟩=some (.pointer (some ⟨q,0,none⟩)):=by simp [World.cell?,m2]
     have d3:w8.cell? ⟨w.heap.size+1+1,0,none⟩=some (.int .i64 0):=by simp [World.cell?,m3]
     have d4:w8.cell? ⟨w.heap.size+1+1,1,none⟩=some (.int .i64 0):=by simp [World.cell?,m3]
     have z2:w8.frozen? ⟨w.heap.size+1,0,none⟩=false:=by simp [World.frozen?,m2]
     have z3:w8.frozen? ⟨w.heap.size+1+1,0,none⟩=false:=by simp [World.frozen?,m3]
     have z4:w8.frozen? ⟨w.heap.size+1+1,1,none⟩=false:=by simp [World.frozen?,m3]
     have e0:=TC (i:=0) (v:=.pointer (some ⟨q,0,none⟩)) m2 rfl;have e2:=TC (i:=0) (v:=.int .i64 0) m3 rfl;have e4:=TC (i:=1) (v:=.int .i64 0) m3 rfl;have HE:=hid (And.intro e0 (And.intro e2 e4));clear e0 e2 e4;go_wp2_with fail;go_region
     all_goals (go_wp2_with fail)
     rw [HE.out.1,HE.out.2.1,HE.out.2.2];refine gK (w:=w8.drew) (B1:=w.heap.size) rfl rfl m2 m3 ?_;have hT:=H8.out.eq;rw [he,if_pos rfl] at hT;exact bK ht hT HN.out.1 HN.out.2.1 HF.out hF8 (by have:=HB.out.2.2.2.1;omega) HB.out.2.2.2.2
    | false =>
     refine AD H7 false he ?_;intro w8 H8;clear H7;have m1:=H8.out.fr.cell (a:=⟨w.heap.size,0,none⟩) (by simp;have:=HB.out.2.2.2.2;omega) c1;go_wp2_with fail;simp only [he,Bool.false_eq_true,if_false] at H8;refine rG H8 ?_;intro k w' hA;exact AO hA HN.out ht HB.out HF.out c1 hz rfl rfl
   ·have hq:(((n:Nat):Int)==(E.l.length:Int) - 1)=false:=by simp;omega
    rw [if_neg (fun h=>heq h.2)] at HS;go_wp2_with fail;go_big_quiet (fail);have HS2:=sO HS nq;clear HS;go_wp2_with fail;cases he:E.ended n with
    | true =>
     refine AD HS2 true he ?_;intro w8 H8;clear HS2;have hF8:=H8.out.fr;have m1:=hF8.cell (a:=⟨w.heap.size,0,none⟩) (by simp;have:=HB.out.2.2.2.2;omega) c1;have m2:=hF8.at_ (k:=w.heap.size+1) (by simp;have:=HB.out.2.2.2.2;omega) HN.out.2.2.1;have m3:=hF8.at_ (k:=w.heap.size+1+1) (by simp;have:=HB.out.2.2.2.2;omega) HN.out.2.2.2;have d2:w8.cell? ⟨w.heap.size+1,0,none⟩=some (.pointer (some ⟨q,0,none⟩)):=by simp [World.cell?,m2]
     have d3:w8.cell? ⟨w.heap.size+1+1,0,none⟩=some (.int .i64 0):=by simp [World.cell?,m3]
     have d4:w8.cell? ⟨w.heap.size+1+1,1,none⟩=some (.int .i64 0):=by simp [World.cell?,m3]
     have z2:w8.frozen? ⟨w.heap.size+1,0,none⟩=false:=by simp [World.frozen?,m2]
     have z3:w8.frozen? ⟨w.heap.size+1+1,0,none⟩=false:=by simp [World.frozen?,m3]
     have z4:w8.frozen? ⟨w.heap.size+1+1,1,none⟩=false:=by simp [World.frozen?,m3]
     have e0:=TC (i:=0) (v:=.pointer (some ⟨q,0,none⟩)) m2 rfl;have e2:=TC (i:=0) (v:=.int .i64 0) m3 rfl;have e4:=TC (i:=1) (v:=.int .i64 0) m3 rfl;have HE:=hid (And.intro e0 (And.intro e2 e4));clear e0 e2 e4;go_wp2_with fail;go_region
     all_goals (go_wp2_with fail)
     rw [HE.out.1,HE.out.2.1,HE.out.2.2];refine gK (w:=w8.drew) (B1:=w.heap.size) rfl rfl m2 m3 ?_;have hT:=H8.out.eq;rw [he,if_pos rfl] at hT;exact bK ht hT HN.out.1 HN.out.2.1 HF.out hF8 (by have:=HB.out.2.2.2.1;omega) HB.out.2.2.2.2
    | false =>
     refine AD HS2 false he ?_;intro w8 H8;clear HS2;have m1:=H8.out.fr.cell (a:=⟨w.heap.size,0,none⟩) (by simp;have:=HB.out.2.2.2.2;omega) c1;go_wp2_with fail;simp only [he,Bool.false_eq_true,if_false] at H8;refine rG H8 ?_;intro k w' hA;exact AO hA HN.out ht HB.out HF.out c1 hz rfl rfl
  ·have hd:decide (((goal.toNat:Nat):Int)≤2)=false:=by simp;have:=fun h=>hle (UInt8.le_iff_toNat_le.2 h);simp at this;omega
   rw [if_neg (fun h=>hle h.1)] at HS;go_wp2_with fail;go_big_quiet (fail);have HS2:=sO HS nq;clear HS;go_wp2_with fail;cases he:E.ended n with
   | true =>
    refine AD HS2 true he ?_;intro w8 H8;clear HS2;have hF8:=H8.out.fr;have m1:=hF8.cell (a:=⟨w.heap.size,0,none⟩) (by simp;have:=HB.out.2.2.2.2;omega) c1;have m2:=hF8.at_ (k:=w.heap.size+1) (by simp;have:=HB.out.2.2.2.2;omega) HN.out.2.2.1;have m3:=hF8.at_ (k:=w.heap.size+1+1) (by simp;have:=HB.out.2.2.2.2;omega) HN.out.2.2.2;have d2:w8.cell? ⟨w.heap.size+1,0,none⟩=some (.pointer (some ⟨q,0,none⟩)):=by simp [World.cell?,m2]
    have d3:w8.cell? ⟨w.heap.size+1+1,0,none⟩=some (.int .i64 0):=by simp [World.cell?,m3]
    have d4:w8.cell? ⟨w.heap.size+1+1,1,none⟩=some (.int .i64 0):=by simp [World.cell?,m3]
    have z2:w8.frozen? ⟨w.heap.size+1,0,none⟩=false:=by simp [World.frozen?,m2]
    have z3:w8.frozen? ⟨w.heap.size+1+1,0,none⟩=false:=by simp [World.frozen?,m3]
    have z4:w8.frozen? ⟨w.heap.size+1+1,1,none⟩=false:=by simp [World.frozen?,m3]
    have e0:=TC (i:=0) (v:=.pointer (some ⟨q,0,none⟩)) m2 rfl;have e2:=TC (i:=0) (v:=.int .i64 0) m3 rfl;have e4:=TC (i:=1) (v:=.int .i64 0) m3 rfl;have HE:=hid (And.intro e0 (And.intro e2 e4));clear e0 e2 e4;go_wp2_with fail;go_region
    all_goals (go_wp2_with fail)
    rw [HE.out.1,HE.out.2.1,HE.out.2.2];refine gK (w:=w8.drew) (B1:=w.heap.size) rfl rfl m2 m3 ?_;have hT:=H8.out.eq;rw [he,if_pos rfl] at hT;exact bK ht hT HN.out.1 HN.out.2.1 HF.out hF8 (by have:=HB.out.2.2.2.1;omega) HB.out.2.2.2.2
   | false =>
    refine AD HS2 false he ?_;intro w8 H8;clear HS2;have m1:=H8.out.fr.cell (a:=⟨w.heap.size,0,none⟩) (by simp;have:=HB.out.2.2.2.2;omega) c1;go_wp2_with fail;simp only [he,Bool.false_eq_true,if_false] at H8;refine rG H8 ?_;intro k w' hA;exact AO hA HN.out ht HB.out HF.out c1 hz rfl rfl
end
end Go.Proofs.YtfmpphplbdojbaaGreatDoor
