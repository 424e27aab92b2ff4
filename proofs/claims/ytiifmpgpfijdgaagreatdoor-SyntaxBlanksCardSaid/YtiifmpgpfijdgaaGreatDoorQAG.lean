import Derived.Test.YtiifmpgpfijdgaaGreatDoorQAF
import Derived.WalkSpells
import Derived.Deep.QuietTactic
import Derived.WalkMore
import Derived.Maps.AppendAt
import Derived.Deep.DeepCutAuto
import Derived.OwnWalk
namespace Go.Proofs.YtiifmpgpfijdgaaGreatDoor
set_option linter.all false
set_option maxHeartbeats 40000000
set_option maxRecDepth 100000
section
open Go.RowKit
theorem keepCell {w w':World}{a:Addr}{v:Value} (hn:Below w.heap.size w w') (h:w.cell? a=some v):w'.cell? a=some v:=by
 rw [hn.cell (World.block_lt_of_cell? w a h)];exact h
theorem bthen {w w1 w2:World} (h:Below w.heap.size w w1) (k:Below w1.heap.size w1 w2):Below w.heap.size w w2:=h.trans (k.mono h.size)
theorem word_any (E:Ev) (c:Nat) (i:Int) (w:World) (h0:w.cell? ⟨c,0,none⟩=some (.string ⟨E.s.toArray⟩)) (h1:w.cell? ⟨c,1,none⟩=some (.slice E.ta E.l.length E.tcap)) (hl:Lie E c w) :
  Calls Tryz.prog 28 #[.pointer (some ⟨c,0,none⟩),.int .i64 i] w fun e w'=>e=.returned (.string ⟨(E.word i).toArray⟩)∧Below w.heap.size w w':=by
 by_cases hi:i < 0
 ·have d0:decide (i < 0)=true:=decide_eq_true hi
  have hw:E.word i=[]:=by unfold Env.word;rw [if_pos hi]
  rw [hw]
  clear hi hw hl
  go_enter Tryz.func28,Tryz.ntmps28
  go_wp2_with fail
  all_goals (go_ret;exact⟨rfl,by first|exact Below.refl _ _|exact (Below.refl _ _).drew⟩)
 ·have d0:decide (i < 0)=false:=decide_eq_false hi
  obtain⟨n,rfl⟩:=Int.eq_ofNat_of_zero_le (Int.not_lt.1 hi)
  by_cases hn:n < E.l.length
  ·have d1:decide ((E.l.length:Int)≤(n:Int))=false:=decide_eq_false (by omega)
   have ht:E.l[n]?=some (E.l[n]):=List.getElem?_eq_getElem hn
   have hw:E.word (n:Int)=if E.l[n].kind=9 then [59] else if E.l[n].kind=8∨E.l[n].kind=2 then (E.s.take E.l[n].to).drop E.l[n].fr else []:=by
    unfold Env.word
    rw [if_neg hi]
    simp only [Int.toNat_natCast,ht]
   obtain⟨b,o,hta,_,c0,c1,c2⟩:=hl.toks n _ ht
   obtain⟨f1,f2⟩:=hl.fits _ (List.getElem_mem hn)
   generalize E.l[n]=t at *
   obtain⟨k,fr,tl⟩:=t
   simp only [] at *
   rw [hta] at h1
   have b0:(0:Int)≤(n:Int):=by omega
   have b1:(n:Int) < (E.l.length:Int):=by omega
   have hB:=(Below.refl w.heap.size w).alloc (Nat.le_refl _) (Obj.cells #[.int .u8 (k.toNat:Int),.int .i64 (fr:Int),.int .i64 (tl:Int)] 62)
   clear hl ht hta
   by_cases k9:k=9
   ·subst k9
    rw [if_pos rfl] at hw
    have HW:=Lib.hid hw
    clear hw f1 f2
    go_enter Tryz.func28,Tryz.ntmps28
    go_wp2_with fail
    all_goals (go_ret;exact⟨by rw [HW.out];rfl,by first|exact hB|exact hB.drew⟩)
   ·by_cases k82:k=8∨k=2
    ·rw [if_neg k9,if_pos k82] at hw
     have HW:=Lib.hid hw
     clear hw
     have g0:(0:Int)≤(fr:Int):=by omega
     have g1:(fr:Int)≤(tl:Int):=by omega
     have g2:(tl:Int)≤(E.s.length:Int):=by omega
     rcases k82 with rfl|rfl
     ·replace hB:Below w.heap.size w (w.alloc (Obj.cells #[.int .u8 8,.int .i64 (fr:Int),.int .i64 (tl:Int)] 62)):=hB
      have hbx:=heap_alloc_new w (Obj.cells #[.int .u8 8,.int .i64 (fr:Int),.int .i64 (tl:Int)] 62)
      have q0:=keepCell hB h0
      replace c0:w.cell? ⟨b,o+n*3,none⟩=some (.int .u8 8):=c0
      go_enter Tryz.func28,Tryz.ntmps28
      go_wp2_with fail
      generalize (w.alloc (Obj.cells #[.int .u8 8,.int .i64 (fr:Int),.int .i64 (tl:Int)] 62))=w1 at *
      generalize hq:w.heap.size=q at *
      have e1:w1.cell? ⟨q,1,none⟩=some (.int .i64 (fr:Int)):=by simp [World.cell?,hbx]
      have e2:w1.cell? ⟨q,2,none⟩=some (.int .i64 (tl:Int)):=by simp [World.cell?,hbx]
      clear hbx c0 c1 c2 h1 h0
      go_region
      go_wp2_with fail
      go_ret
      subst hq
      exact⟨by rw [HW.out,List.drop_take];simp [ByteArray.extract_mk],hB.drew⟩
     ·replace hB:Below w.heap.size w (w.alloc (Obj.cells #[.int .u8 2,.int .i64 (fr:Int),.int .i64 (tl:Int)] 62)):=hB
      have hbx:=heap_alloc_new w (Obj.cells #[.int .u8 2,.int .i64 (fr:Int),.int .i64 (tl:Int)] 62)
      have q0:=keepCell hB h0
      replace c0:w.cell? ⟨b,o+n*3,none⟩=some (.int .u8 2):=c0
      go_enter Tryz.func28,Tryz.ntmps28
      go_wp2_with fail
      generalize (w.alloc (Obj.cells #[.int .u8 2,.int .i64 (fr:Int),.int .i64 (tl:Int)] 62))=w1 at *
      generalize hq:w.heap.size=q at *
      have e1:w1.cell? ⟨q,1,none⟩=some (.int .i64 (fr:Int)):=by simp [World.cell?,hbx]
      have e2:w1.cell? ⟨q,2,none⟩=some (.int .i64 (tl:Int)):=by simp [World.cell?,hbx]
      clear hbx c0 c1 c2 h1 h0
      go_region
      go_wp2_with fail
      go_ret
      subst hq
      exact⟨by rw [HW.out,List.drop_take];simp [ByteArray.extract_mk],hB.drew⟩
    ·rw [if_neg k9,if_neg k82] at hw
     simp only [not_or] at k82
     have cs:∀ m:Nat,m < 256→k≠UInt8.ofNat m→((k.toNat:Int)==(m:Int))=false:=by
      intro m hm hne
      rw [beq_eq_false_iff_ne]
      intro e
      apply hne
      apply UInt8.toNat_inj.1
      rw [UInt8.toNat_ofNat',Nat.mod_eq_of_lt (by omega)]
      omega
     have d9:((k.toNat:Int)==9)=false:=cs 9 (by decide) k9
     have d8:((k.toNat:Int)==8)=false:=cs 8 (by decide) k82.1
     have d2:((k.toNat:Int)==2)=false:=cs 2 (by decide) k82.2
     have HW:=Lib.hid hw
     clear hw f1 f2 cs k9 k82
     go_enter Tryz.func28,Tryz.ntmps28
     go_wp2_with fail
     all_goals (go_ret;exact⟨by rw [HW.out];rfl,by first|exact hB|exact hB.drew⟩)
  ·have d1:decide ((E.l.length:Int)≤(n:Int))=true:=decide_eq_true (by omega)
   have hw:E.word (n:Int)=[]:=by unfold Env.word;rw [if_neg hi];simp only [Int.toNat_natCast,List.getElem?_eq_none (Nat.le_of_not_lt hn)]
   rw [hw]
   clear hw hl
   go_enter Tryz.func28,Tryz.ntmps28
   go_wp2_with fail
   all_goals (go_ret;exact⟨rfl,by first|exact Below.refl _ _|exact (Below.refl _ _).drew⟩)
end
section
open Go.RowKit
structure Nd5 where
 kind:UInt8
 kids:Nat
 word:Int
 fr:Nat
 till:Nat
mutual
def nodes:Tr→List Nd5
 | .mk k wd f t ks=>⟨k,ks.length,wd,f,t⟩::nodesL ks
def nodesL:List Tr→List Nd5
 | []=>[]
 | t::ts=>nodes t++nodesL ts
end
def nd5V (x:Nd5):List Value:=[.int .u8 (x.kind.toNat:Int),.int .i64 (x.kids:Int),.int .i64 x.word,.int .i64 (x.fr:Int),.int .i64 (x.till:Int)]
def nd5sV (l:List Nd5):List Value:=l.flatMap nd5V
theorem nd5sV_snoc (l:List Nd5) (x:Nd5):nd5sV (l++[x])=nd5sV l++nd5V x:=by simp [nd5sV]
theorem nodes_len:∀ t:Tr,(nodes t).length=cnt t
 | .mk k wd f t ks=>by
  have h:∀ ks:List Tr,(∀ x∈ks,(nodes x).length=cnt x)→(nodesL ks).length=cntL ks:=by
   intro ks
   induction ks with
   | nil=>intro _;rfl
   | cons x xs ih=>intro hx;simp only [nodesL,cntL,List.length_append,hx x (by simp),ih (fun y hy=>hx y (by simp [hy]))]
  simp only [nodes,cnt,List.length_cons]
  have:=h ks (fun x hx=>nodes_len x)
  omega
theorem nodesL_len:∀ ks:List Tr,(nodesL ks).length=cntL ks
 | []=>rfl
 | x::xs=>by simp only [nodesL,cntL,List.length_append,nodes_len,nodesL_len xs]
theorem nodesL_append:∀ a b:List Tr,nodesL (a++b)=nodesL a++nodesL b
 | [],b=>rfl
 | x::a,b=>by simp only [List.cons_append,nodesL,nodesL_append a b,List.append_assoc]
theorem cntL_append:∀ a b:List Tr,cntL (a++b)=cntL a+cntL b
 | [],b=>by simp [cntL]
 | x::a,b=>by simp only [List.cons_append,cntL,cntL_append a b];omega
theorem cntL_ge:∀ ks:List Tr,ks.length≤cntL ks
 | []=>by simp [cntL]
 | x::xs=>by have:=cntL_ge xs;have:=cnt_pos x;simp only [List.length_cons,cntL];omega
theorem take_step {α:Type}{ks:List α}{i:Nat}{x:α} (h:ks[i]?=some x):ks.take (i+1)=ks.take i++[x]:=by
 rw [List.take_add_one,h];rfl
theorem take_bound {ks:List Tr}{i:Nat}{x:Tr} (h:ks[i]?=some x):cntL (ks.take i)+cnt x≤cntL ks:=by
 have e:ks=ks.take (i+1)++ks.drop (i+1):=(List.take_append_drop _ _).symm
 have e2:=congrArg cntL e
 rw [cntL_append,take_step h,cntL_append] at e2
 simp only [cntL] at e2
 omega
def Env.text (E:Env) (wd:Int):List UInt8:=if wd < 0 then [] else match E.l[wd.toNat]? with|some t=>(E.s.take t.to).drop t.fr|none=>[]
def partW (E:Env) (k:UInt8) (wd:Int):List UInt8 :=
 if k=45 then (if E.text wd=[60,45] then [60,45,99,104,97,110] else if E.word (wd+1)=[60,45] then [99,104,97,110,60,45] else E.text wd) else E.text wd
structure Pt3 where
 kind:UInt8
 kids:Nat
 word:List UInt8
mutual
def parts (E:Env):Tr→List Pt3
 | .mk k wd _ _ ks=>⟨k,ks.length,partW E k wd⟩::partsL E ks
def partsL (E:Env):List Tr→List Pt3
 | []=>[]
 | t::ts=>parts E t++partsL E ts
end
def pt3V (x:Pt3):List Value:=[.int .u8 (x.kind.toNat:Int),.int .i64 (x.kids:Int),.string ⟨x.word.toArray⟩]
def pt3sV (l:List Pt3):List Value:=l.flatMap pt3V
theorem pt3sV_snoc (l:List Pt3) (x:Pt3):pt3sV (l++[x])=pt3sV l++pt3V x:=by simp [pt3sV]
theorem parts_len (E:Env):∀ t:Tr,(parts E t).length=cnt t
 | .mk k wd f t ks=>by
  have h:∀ ks:List Tr,(∀ x∈ks,(parts E x).length=cnt x)→(partsL E ks).length=cntL ks:=by
   intro ks
   induction ks with
   | nil=>intro _;rfl
   | cons x xs ih=>intro hx;simp only [partsL,cntL,List.length_append,hx x (by simp),ih (fun y hy=>hx y (by simp [hy]))]
  simp only [parts,cnt,List.length_cons]
  have:=h ks (fun x hx=>parts_len E x)
  omega
theorem partsL_len (E:Env):∀ ks:List Tr,(partsL E ks).length=cntL ks
 | []=>rfl
 | x::xs=>by simp only [partsL,cntL,List.length_append,parts_len,partsL_len E xs]
theorem partsL_append (E:Env):∀ a b:List Tr,partsL E (a++b)=partsL E a++partsL E b
 | [],b=>rfl
 | x::a,b=>by simp only [List.cons_append,partsL,partsL_append E a b,List.append_assoc]
theorem spelled_lt {E:Env}{k:UInt8}{wd:Int} (h:spelled E k wd=true):wd=-1∨∃ n:Nat,wd=(n:Int)∧n < E.l.length:=by
 have key:∀ {P:Prop},(wd < 0→P)→(∀ n:Nat,wd=(n:Int)→E.l.length≤n→P)→(∃ n:Nat,wd=(n:Int)∧n < E.l.length)∨P:=by
  intro P h1 h2
  by_cases hn:wd < 0
  ·exact .inr (h1 hn)
  ·obtain⟨n,rfl⟩:=Int.eq_ofNat_of_zero_le (Int.not_lt.1 hn)
   by_cases hl:n < E.l.length
   ·exact .inl ⟨n,rfl,hl⟩
   ·exact .inr (h2 n rfl (by omega))
 unfold spelled at h
 split at h
 ·right
  rcases key (P:=False) (fun hn=>by unfold Env.named Env.kind at h;rw [if_pos hn] at h;cases h) (fun n e hl=>by subst e;rw [named_nil hl] at h;cases h) with h|h
  ·exact h
  ·exact h.elim
 ·split at h
  ·right
   rcases key (P:=False) (fun hn=>by unfold Env.literal Env.kind at h;rw [if_pos hn] at h;cases h) (fun n e hl=>by subst e;unfold Env.literal at h;rw [kind_nil hl] at h;cases h) with h|h
   ·exact h
   ·exact h.elim
  ·split at h
   ·left;assumption
   ·right
    simp only [Bool.and_eq_true,decide_eq_true_eq] at h
    rcases key (P:=False) (fun hn=>by omega) (fun n e hl=>by subst e;rw [word_nil hl] at h;simp at h) with h|h
    ·exact h
    ·exact h.elim
end
namespace Grd
open Go.RowKit
structure Pt where
 k:UInt8
 n:Int
 w:List UInt8
def Pt.cells (p:Pt):List Value:=[.int .u8 (p.k.toNat:Int),.int .i64 p.n,.string ⟨p.w.toArray⟩]
theorem own_take {w:World}{base:Nat}{e:TypeId}{size:Nat}{a:Option Addr}{n cap m:Nat}{xs:List Value} (hm:m≤n)
  (h:w.ownsRow base e size (.slice a n cap) n xs):w.ownsRow base e size (.slice a m cap) m (xs.take (m*size)):=by
 obtain⟨h1,h2⟩:=h
 rcases h2 with ⟨h0,h3⟩|⟨g,cap',cur,hv,hg,hh,hn,hcap,hsz,htake⟩
 ·cases h0
  have:m=0:=by omega
  subst this
  exact⟨by simp,.inl ⟨rfl,rfl⟩⟩
 ·cases hv
  refine⟨by rw [List.length_take,h1];exact Nat.min_eq_left (Nat.mul_le_mul_right _ hm),.inr ⟨g,cap,cur,rfl,hg,hh,by omega,hcap,hsz,?_⟩⟩
  rw [← htake,List.take_take,Nat.min_eq_left (Nat.mul_le_mul_right _ hm)]
theorem own_shape {w:World}{base:Nat}{e:TypeId}{size:Nat}{v:Value}{n:Nat}{xs:List Value} (h:w.ownsRow base e size v n xs):∃ a cap,v=.slice a n cap:=by
 rcases h.2 with ⟨rfl,rfl⟩|⟨g,cap,cur,rfl,_⟩
 ·exact⟨_,_,rfl⟩
 ·exact⟨_,_,rfl⟩
theorem own_cap {w:World}{base:Nat}{e:TypeId}{size:Nat}{a:Option Addr}{n cap:Nat}{xs:List Value} (h:w.ownsRow base e size (.slice a n cap) n xs):n≤cap:=by
 rcases h.2 with ⟨h0,h3⟩|⟨g,cap',cur,hv,hg,hh,hn,_⟩
 ·omega
 ·cases hv;exact hn
theorem one_int (k:IntKind) (n:Int):∀ u∈[Value.int k n],u.oneCell'=true:=by
 intro u hu;simp at hu;subst hu;rfl
def PartsAt (w:World) (a:Option Addr) (l:List Pt):Prop :=
 l=[]∨∃ b off,a=some ⟨b,off,none⟩∧b < w.heap.size∧∀ j p,l[j]?=some p →
  w.cell? ⟨b,off+j*3,none⟩=some (.int .u8 (p.k.toNat:Int))∧w.cell? ⟨b,off+j*3+1,none⟩=some (.int .i64 p.n)∧w.cell? ⟨b,off+j*3+2,none⟩=some (.string ⟨p.w.toArray⟩)
def IntsAt (w:World) (a:Option Addr) (l:List Int):Prop :=
 l=[]∨∃ b off,a=some ⟨b,off,none⟩∧b < w.heap.size∧∀ j n,l[j]?=some n→w.cell? ⟨b,off+j,none⟩=some (.int .i64 n)
theorem PartsAt.later {w w':World}{a:Option Addr}{l:List Pt} (h:PartsAt w a l) (hb:Below w.heap.size w w'):PartsAt w' a l:=by
 rcases h with h|⟨b,off,e,hlt,hc⟩
 ·exact .inl h
 ·refine .inr ⟨b,off,e,Nat.lt_of_lt_of_le hlt hb.size,fun j p hj=>?_⟩
  rw [hb.cell (p:=⟨b,off+j*3,none⟩) hlt,hb.cell (p:=⟨b,off+j*3+1,none⟩) hlt,hb.cell (p:=⟨b,off+j*3+2,none⟩) hlt]
  exact hc j p hj
theorem IntsAt.later {w w':World}{a:Option Addr}{l:List Int} (h:IntsAt w a l) (hb:Below w.heap.size w w'):IntsAt w' a l:=by
 rcases h with h|⟨b,off,e,hlt,hc⟩
 ·exact .inl h
 ·refine .inr ⟨b,off,e,Nat.lt_of_lt_of_le hlt hb.size,fun j p hj=>?_⟩
  rw [hb.cell (p:=⟨b,off+j,none⟩) hlt]
  exact hc j p hj
end Grd
end Go.Proofs.YtiifmpgpfijdgaaGreatDoor
