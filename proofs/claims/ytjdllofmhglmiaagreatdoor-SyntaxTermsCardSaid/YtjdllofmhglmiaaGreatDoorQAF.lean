import Derived.Test.YtjdllofmhglmiaaGreatDoorQAE
namespace Go.Proofs.YtjdllofmhglmiaaGreatDoor
open Lib(hid)
set_option linter.all false
set_option maxHeartbeats 40000000
set_option maxRecDepth 100000
section
open Go.RowKit
theorem aA {w w':World}{a:Addr}{v:Value} (hn:Below w.heap.size w w') (h:w.cell? a=some v):w'.cell? a=some v:=by
 rw [hn.cell (World.block_lt_of_cell? w a h)];exact h
theorem dA {w w1 w2:World} (h:Below w.heap.size w w1) (k:Below w1.heap.size w1 w2):Below w.heap.size w w2:=h.trans (k.mono h.size)
theorem BH (E:Ev) (c:Nat) (i:Int) (w:World) (h0:w.cell? (y8 c 0)=some (.string ⟨E.s.toArray⟩)) (h1:w.cell? (y8 c 1)=some (.slice E.ta E.l.length E.tcap)) (hl:Lie E c w) :
  Calls Tryz.prog 21 #[p8 c,i8 i] w fun e w'=>e=.returned (.string ⟨(E.word i).toArray⟩)/\Below w.heap.size w w':=by
 by_cases hi:i < 0
 ·have d0:decide (i < 0)=true:=decide_eq_true hi;have hw:E.word i=[]:=by unfold Env.word;rw [Bb hi]
  rw [hw];clear hi hw hl
  go_in
  exact zax
 ·have d0:decide (i < 0)=false:=decide_eq_false hi;obtain⟨n,rfl⟩:=Ad (Int.not_lt.1 hi);by_cases hn:n < E.l.length
  ·have d1:decide ((E.l.length:Int)<=(n:Int))=false:=decide_eq_false Cs;have ht:E.l[n]?=some (E.l[n]):=O' hn;have hw:E.word (n:Int)=if E.l[n].kind=9 then [59] else if E.l[n].kind=8∨E.l[n].kind=2 then (E.s.take E.l[n].to).drop E.l[n].fr else []:=by
    unfold Env.word;exact zcx
   obtain⟨b,o,hta,_,c0,c1,c2⟩:=hl.toks n _ ht;obtain⟨f1,f2⟩:=hl.fits _ (List.getElem_mem hn);generalize E.l[n]=t at *;obtain⟨k,fr,tl⟩:=t;simp only [] at *;rw [hta] at h1;have b0:(0:Int)<=(n:Int):=Cs
   have b1:(n:Int) < (E.l.length:Int):=Cs
   have hB:=(N' w.heap.size w).alloc (C' _) (Obj.cells #[.int .u8 (k.toNat:Int),i8 (fr:Int),i8 (tl:Int)] 56);clear hl ht hta;by_cases k9:k=9
   ·subst k9;rw [Bb rfl] at hw;have HW:=hid hw;clear hw f1 f2
    go_in
    exact zdf
   ·by_cases k82:k=8∨k=2
    ·rw [Bc k9,Bb k82] at hw;have HW:=hid hw;clear hw;have g0:(0:Int)<=(fr:Int):=by omega
     have g1:(fr:Int)<=(tl:Int):=Cs
     have g2:(tl:Int)<=(E.s.length:Int):=Cs
     rcases k82 with rfl|rfl
     ·replace hB:Below w.heap.size w (w.alloc (Obj.cells #[.int .u8 8,i8 (fr:Int),i8 (tl:Int)] 56)):=hB;have hbx:=B8 w (Obj.cells #[.int .u8 8,i8 (fr:Int),i8 (tl:Int)] 56);have q0:=aA hB h0;replace c0:w.cell? ⟨b,o+n*3,none⟩=some (.int .u8 8):=c0
      go_in
      go_wp2_with fail;generalize (w.alloc (Obj.cells #[.int .u8 8,i8 (fr:Int),i8 (tl:Int)] 56))=w1 at *;exact zbc
     ·replace hB:Below w.heap.size w (w.alloc (Obj.cells #[.int .u8 2,i8 (fr:Int),i8 (tl:Int)] 56)):=hB;have hbx:=B8 w (Obj.cells #[.int .u8 2,i8 (fr:Int),i8 (tl:Int)] 56);have q0:=aA hB h0;replace c0:w.cell? ⟨b,o+n*3,none⟩=some (.int .u8 2):=c0
      go_in
      go_wp2_with fail;generalize (w.alloc (Obj.cells #[.int .u8 2,i8 (fr:Int),i8 (tl:Int)] 56))=w1 at *;exact zbc
    ·rw [Bc k9,Bc k82] at hw;simp only [not_or] at k82;have cs:∀ m:Nat,m < 256->k≠UInt8.ofNat m->((k.toNat:Int)==(m:Int))=false:=by
      intro m hm hne;rw [Bi];intro e;apply hne;apply Ay.1;rw [UInt8.toNat_ofNat',Nat.mod_eq_of_lt Cs];omega
     have d9:((k.toNat:Int)==9)=false:=cs 9 Ct k9;have d8:((k.toNat:Int)==8)=false:=cs 8 Ct k82.1;have d2:((k.toNat:Int)==2)=false:=cs 2 Ct k82.2;have HW:=hid hw;clear hw f1 f2 cs k9 k82
     go_in
     exact zdf
  ·have d1:decide ((E.l.length:Int)<=(n:Int))=true:=decide_eq_true Cs;have hw:E.word (n:Int)=[]:=by unfold Env.word;rw [Bc hi];simp only [Ai,As (Nat.le_of_not_lt hn)]
   rw [hw];clear hw hl
   go_in
   exact zax
theorem jZ1:(∀ (w:World) (o:Obj),(w.alloc o).heap.size=w.heap.size+1)/\(∀ (w:World) (a:Addr) (v:Value),(w.setCell a v).heap.size=w.heap.size):=by and_intros <;> intros <;> simp
end
namespace Grd
open Go.RowKit
structure Pt where
 k:UInt8
 n:Int
 w:List UInt8
def Pt.cells (p:Pt):List Value:=[.int .u8 (p.k.toNat:Int),i8 p.n,.string ⟨p.w.toArray⟩]
theorem ID {w:World}{base:Nat}{e:TypeId}{size:Nat}{v:Value}{n:Nat}{xs:List Value} (h:w.ownsRow base e size v n xs):∃ a cap,v=.slice a n cap:=by
 exact zdg
def tB (w:World) (a:Option Addr) (l:List Pt):Prop :=
 l=[]∨∃ b off,a=some (y8 b off)/\b < w.heap.size/\∀ j p,l[j]?=some p ->
  w.cell? ⟨b,off+j*3,none⟩=some (.int .u8 (p.k.toNat:Int))/\w.cell? ⟨b,off+j*3+1,none⟩=some (i8 p.n)/\w.cell? ⟨b,off+j*3+2,none⟩=some (.string ⟨p.w.toArray⟩)
def LR (w:World) (a:Option Addr) (l:List Int):Prop :=
 l=[]∨∃ b off,a=some (y8 b off)/\b < w.heap.size/\∀ j n,l[j]?=some n->w.cell? (y8 b (off+j))=some (i8 n)
theorem tB.later {w w':World}{a:Option Addr}{l:List Pt} (h:tB w a l) (hb:Below w.heap.size w w'):tB w' a l:=by
 rcases h with h|⟨b,off,e,hlt,hc⟩
 ·exact .inl h
 ·refine .inr ⟨b,off,e,Aj hlt hb.size,fun j p hj=>?_⟩;rw [hb.cell (p:=⟨b,off+j*3,none⟩) hlt,hb.cell (p:=⟨b,off+j*3+1,none⟩) hlt,hb.cell (p:=⟨b,off+j*3+2,none⟩) hlt];exact hc j p hj
theorem LR.later {w w':World}{a:Option Addr}{l:List Int} (h:LR w a l) (hb:Below w.heap.size w w'):LR w' a l:=by
 rcases h with h|⟨b,off,e,hlt,hc⟩
 ·exact .inl h
 ·refine .inr ⟨b,off,e,Aj hlt hb.size,fun j p hj=>?_⟩;rw [hb.cell (p:=(y8 b (off+j))) hlt];exact hc j p hj
end Grd
section
open Go.RowKit
structure Nd5 where
 kind:UInt8
 kids:Nat
 word:Int
 fr:Nat
 till:Nat
mutual
def nodes:Tr->List Nd5
 | .mk k wd f t ks=>⟨k,ks.length,wd,f,t⟩::mG ks
def mG:List Tr->List Nd5
 | []=>[]
 | t::ts=>nodes t++mG ts
end
def OY (x:Nd5):List Value:=[.int .u8 (x.kind.toNat:Int),i8 (x.kids:Int),i8 x.word,i8 (x.fr:Int),i8 (x.till:Int)]
def tV (l:List Nd5):List Value:=l.flatMap OY
theorem aY (l:List Nd5) (x:Nd5):tV (l++[x])=tV l++OY x:=by simp [tV]
theorem sN:∀ t:Tr,(nodes t).length=cnt t
 | .mk k wd f t ks=>by
  have h:∀ ks:List Tr,(∀ x∈ks,(nodes x).length=cnt x)->(mG ks).length=EB ks:=by
   intro ks
   induction ks with
   | nil=>intro _;rfl
   | cons x xs ih=>intro hx;simp only [mG,EB,V',hx x Cu,ih (fun y hy=>hx y (by simp [hy]))]
  simp only [nodes,cnt,Ae];have:=h ks (fun x hx=>sN x);omega
theorem pQ:∀ ks:List Tr,(mG ks).length=EB ks
 | []=>rfl
 | x::xs=>by simp only [mG,EB,V',sN,pQ xs]
theorem tM:∀ a b:List Tr,mG (a++b)=mG a++mG b
 | [],b=>rfl
 | x::a,b=>by simp only [Ao,mG,tM a b,List.append_assoc]
theorem CH:∀ a b:List Tr,EB (a++b)=EB a+EB b
 | [],b=>by simp [EB]
 | x::a,b=>by simp only [Ao,EB,CH a b];omega
theorem fS:∀ ks:List Tr,ks.length<=EB ks
 | []=>by simp [EB]
 | x::xs=>by have:=fS xs;have:=YR x;simp only [Ae,EB];omega
theorem fN {α:Type}{ks:List α}{i:Nat}{x:α} (h:ks[i]?=some x):ks.take (i+1)=ks.take i++[x]:=by
 rw [List.take_add_one,h];rfl
theorem BQ {ks:List Tr}{i:Nat}{x:Tr} (h:ks[i]?=some x):EB (ks.take i)+cnt x<=EB ks:=by
 have e:ks=ks.take (i+1)++ks.drop (i+1):=(List.take_append_drop _ _).symm;have e2:=congrArg EB e;rw [CH,fN h,CH] at e2;simp only [EB] at e2;omega
def Env.text (E:Env) (wd:Int):List UInt8:=if wd < 0 then [] else match E.l[wd.toNat]? with|some t=>(E.s.take t.to).drop t.fr|none=>[]
def lD (E:Env) (k:UInt8) (wd:Int):List UInt8 :=
 if k=45 then (if E.text wd=[60,45] then [60,45,99,104,97,110] else if E.word (wd+1)=[60,45] then [99,104,97,110,60,45] else E.text wd) else E.text wd
structure Pt3 where
 kind:UInt8
 kids:Nat
 word:List UInt8
mutual
def parts (E:Env):Tr->List Pt3
 | .mk k wd _ _ ks=>⟨k,ks.length,lD E k wd⟩::kC E ks
def kC (E:Env):List Tr->List Pt3
 | []=>[]
 | t::ts=>parts E t++kC E ts
end
def TJ (x:Pt3):List Value:=[.int .u8 (x.kind.toNat:Int),i8 (x.kids:Int),.string ⟨x.word.toArray⟩]
def CF (l:List Pt3):List Value:=l.flatMap TJ
theorem mR (l:List Pt3) (x:Pt3):CF (l++[x])=CF l++TJ x:=by simp [CF]
theorem nI (E:Env):∀ t:Tr,(parts E t).length=cnt t
 | .mk k wd f t ks=>by
  have h:∀ ks:List Tr,(∀ x∈ks,(parts E x).length=cnt x)->(kC E ks).length=EB ks:=by
   intro ks
   induction ks with
   | nil=>intro _;rfl
   | cons x xs ih=>intro hx;simp only [kC,EB,V',hx x Cu,ih (fun y hy=>hx y (by simp [hy]))]
  simp only [parts,cnt,Ae];have:=h ks (fun x hx=>nI E x);omega
theorem ZK (E:Env):∀ ks:List Tr,(kC E ks).length=EB ks
 | []=>rfl
 | x::xs=>by simp only [kC,EB,V',nI,ZK E xs]
theorem yI (E:Env):∀ a b:List Tr,kC E (a++b)=kC E a++kC E b
 | [],b=>rfl
 | x::a,b=>by simp only [Ao,kC,yI E a b,List.append_assoc]
theorem pR {E:Env}{k:UInt8}{wd:Int} (h:gB E k wd=true):wd=-1∨∃ n:Nat,wd=(n:Int)/\n < E.l.length:=by
 have key:∀ {P:Prop},(wd < 0->P)->(∀ n:Nat,wd=(n:Int)->E.l.length<=n->P)->(∃ n:Nat,wd=(n:Int)/\n < E.l.length)∨P:=by
  intro P h1 h2;by_cases hn:wd < 0
  ·exact .inr (h1 hn)
  ·obtain⟨n,rfl⟩:=Ad (Int.not_lt.1 hn);by_cases hl:n < E.l.length
   ·exact .inl ⟨n,rfl,hl⟩
   ·exact .inr (h2 n rfl Cs)
 unfold gB at h;split at h
 ·right
  rcases key (P:=False) (fun hn=>by unfold Env.named Env.kind at h;rw [Bb hn] at h;cases h) (fun n e hl=>by subst e;rw [pI hl] at h;cases h) with h|h
  ·exact h
  ·exact h.elim
 ·split at h
  ·right
   rcases key (P:=False) (fun hn=>by unfold Env.literal Env.kind at h;rw [Bb hn] at h;cases h) (fun n e hl=>by subst e;unfold Env.literal at h;rw [FG hl] at h;cases h) with h|h
   ·exact h
   ·exact h.elim
  ·split at h
   ·left;assumption
   ·right
    simp only [Bz,Bq] at h;rcases key (P:=False) (fun hn=>Cs) (fun n e hl=>by subst e;rw [AG hl] at h;simp at h) with h|h
    ·exact h
    ·exact h.elim
end
