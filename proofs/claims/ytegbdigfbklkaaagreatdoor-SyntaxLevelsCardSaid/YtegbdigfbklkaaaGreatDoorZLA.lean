import Derived.Test.YtegbdigfbklkaaaGreatDoorQBV
import Derived.Test.YtegbdigfbklkaaaGreatDoorQAF
import Derived.Test.YtegbdigfbklkaaaGreatDoorQAT
namespace Go.Proofs.YtegbdigfbklkaaaGreatDoor
set_option linter.all false
set_option maxHeartbeats 40000000
set_option maxRecDepth 100000
section
def pairN (E:Env) (x:Nd5):Pt3:=⟨x.kind,x.kids,partW E x.kind x.word⟩
mutual
theorem parts_nodes (E:Env):∀ t:Tr,parts E t=(nodes t).map (pairN E)
 | .mk k wd f t ks=>by rw [parts,nodes,List.map_cons,partsL_nodes E ks];rfl
theorem partsL_nodes (E:Env):∀ ts:List Tr,partsL E ts=(nodesL ts).map (pairN E)
 | []=>rfl
 | t::ts=>by rw [partsL,nodesL,List.map_append,parts_nodes E t,partsL_nodes E ts]
end
mutual
theorem nodes_spelled (E:Env):∀ t:Tr,Sp E t→∀ x∈nodes t,spelled E x.kind x.word=true
 | .mk k wd f t ks,h,x,hx=>by
  rw [nodes,List.mem_cons] at hx
  rcases hx with rfl|hx
  ·exact h.1
  ·exact nodesL_spelled E ks h.2 x hx
theorem nodesL_spelled (E:Env):∀ ts:List Tr,Sps E ts→∀ x∈nodesL ts,spelled E x.kind x.word=true
 | [],_,x,hx=>by rw [nodesL] at hx;cases hx
 | t::ts,h,x,hx=>by
  rw [nodesL,List.mem_append] at hx
  rcases hx with hx|hx
  ·exact nodes_spelled E t h.1 x hx
  ·exact nodesL_spelled E ts h.2 x hx
end
theorem name_ne {t:List UInt8} (h:nameB t=true):t≠[]:=fun e=>by
 subst e
 unfold nameB at h
 rw [if_pos (.inl rfl)] at h
 cases h
theorem lit_ne {t:List UInt8} (h:(valueQ t).2=0∨Num.kindL t≠0):t≠[]:=fun e=>by
 subst e
 rcases h with h|h
 ·exact absurd h (by decide +kernel)
 ·exact h kindL_nil
theorem word_of {E:Env} (hT:∀ t∈E.l,TokSp E.s t) {k:UInt8}{wd:Int} (h:spelled E k wd=true) :
  (wd=-1∧partW E k wd=[])∨∃ n:Nat,∃ t:Tk,wd=(n:Int)∧E.l[n]?=some t∧partW E k wd≠[]∧(k≠45→partW E k wd=tkW E.s t):=by
 have hS:=spelt_of hT k wd h
 rcases spelled_lt h with rfl|⟨n,rfl,hn⟩
 ·left
  refine⟨rfl,?_⟩
  unfold partW
  split
  ·rename_i h45;subst h45;exact absurd (show false=true from h) (by decide)
  ·rfl
 ·right
  have ht:E.l[n]?=some E.l[n]:=List.getElem?_eq_getElem hn
  refine⟨n,E.l[n],rfl,ht,?_,fun h45=>?_⟩
  ·by_cases h26:k=26
   ·subst h26
    have e:partW E 26 (n:Int)=tkW E.s E.l[n]:=by unfold partW;rw [if_neg (by decide)];exact text_at ht
    rw [e] at hS ⊢
    exact name_ne hS
   by_cases h27:k=27
   ·subst h27
    have e:partW E 27 (n:Int)=tkW E.s E.l[n]:=by unfold partW;rw [if_neg (by decide)];exact text_at ht
    rw [e] at hS ⊢
    have hS:((valueQ (tkW E.s E.l[n])).2==0||Num.kindL (tkW E.s E.l[n]) != 0)=true:=hS
    refine lit_ne ?_
    rw [Bool.or_eq_true] at hS
    rcases hS with h|h
    ·exact .inl (eq_of_beq h)
    ·exact .inr (by simpa using h)
   ·unfold spelled at h
    rw [if_neg h26,if_neg h27,if_neg (by omega)] at h
    simp only [Bool.and_eq_true,bne_iff_ne,ne_eq,decide_eq_true_eq] at h
    obtain⟨⟨h1,h2⟩,h3⟩:=h
    have hm:=spW_words h2 h3
    obtain⟨h4,_⟩:=words_all ⟨k.toNat,k.toNat_lt⟩ (E.word (n:Int)) (by simpa using hm)
    have htx:=text_word (E:=E) (wd:=(n:Int)) rfl h2 h4
    unfold partW
    split
    ·split
     ·decide
     ·split
      ·decide
      ·rw [htx];exact h2
    ·rw [htx];exact h2
  ·unfold partW
   rw [if_neg h45]
   exact text_at ht
theorem decls_root (E:Env):∀ (k:Nat) (a b:Tr) (c:List Tr) (n:Nat) (g:Bool) (t:Tr) (m:Nat),(spec E k).t (.fileDecls a b c) n g=.ok t m→t.kind=1∧t.fr=0∧t.to=m
 | 0,a,b,c,n,g,t,m,h=>by cases h
 | k+1,a,b,c,n,g,t,m,h=>by
  have h:fileDeclsB E (spec E k) a b c n g=.ok t m:=h
  have sub:∀ (r:R Tr),(r.andThen fun x n1=>(want E [59] n1).andThen fun _ n2=>(spec E k).t (.fileDecls a b (c++[x])) n2 g)=.ok t m→t.kind=1∧t.fr=0∧t.to=m:=fun r hr=>by
   cases r with
   | ok x n1 =>
    have hr:((want E [59] n1).andThen fun _ n2=>(spec E k).t (.fileDecls a b (c++[x])) n2 g)=.ok t m:=hr
    unfold want at hr
    split at hr
    ·exact decls_root E k _ _ _ _ _ _ _ hr
    ·cases hr
   | bad j=>cases hr
   | out=>cases hr
  unfold fileDeclsB at h
  split at h
  ·exact sub _ h
  ·split at h
   ·exact sub _ h
   ·cases h;exact⟨rfl,rfl,rfl⟩
theorem imports_root (E:Env):∀ (k:Nat) (a:Tr) (c:List Tr) (n:Nat) (g:Bool) (t:Tr) (m:Nat),(spec E k).t (.fileImports a c) n g=.ok t m→t.kind=1∧t.fr=0∧t.to=m
 | 0,a,c,n,g,t,m,h=>by cases h
 | k+1,a,c,n,g,t,m,h=>by
  have h:fileImportsB E (spec E k) a c n g=.ok t m:=h
  unfold fileImportsB at h
  split at h
  ·cases hr:(spec E k).t .group n g with
   | ok x n1 =>
    rw [hr] at h
    have h:((want E [59] n1).andThen fun _ n2=>(spec E k).t (.fileImports a (c++[x])) n2 g)=.ok t m:=h
    unfold want at h
    split at h
    ·exact imports_root E k _ _ _ _ _ _ h
    ·cases h
   | bad j=>rw [hr] at h;cases h
   | out=>rw [hr] at h;cases h
  ·exact decls_root E k _ _ _ _ _ _ _ h
theorem file_root {E:Env}{t:Tr}{m:Nat} (h:treeT E 4=.ok t m):t.kind=1∧t.fr=0∧t.to=E.l.length:=by
 obtain⟨_,n,hn,hs,hg⟩:=treeT_ok h
 have hn:n=E.l.length:=hg.resolve_left (by decide)
 have hs:(spec E (stepsT E)).t .file 0 false=.ok t n:=hs
 unfold stepsT at hs
 have hs:fileB E (spec E (20*E.l.length+19)) 0 false=.ok t n:=hs
 unfold fileB at hs
 unfold want at hs
 split at hs
 ·have hs:((nameT E (0+1)).andThen fun name n2=>(want E [59] n2).andThen fun _ n3=>(spec E (20*E.l.length+19)).t (.fileImports name []) n3 false)=.ok t n:=hs
  cases hr:nameT E (0+1) with
  | ok x n1 =>
   rw [hr] at hs
   have hs:((want E [59] n1).andThen fun _ n3=>(spec E (20*E.l.length+19)).t (.fileImports x []) n3 false)=.ok t n:=hs
   unfold want at hs
   split at hs
   ·obtain⟨h1,h2,h3⟩:=imports_root E _ _ _ _ _ _ _ hs
    exact⟨h1,h2,by omega⟩
   ·cases hs
  | bad j=>rw [hr] at hs;cases hs
  | out=>rw [hr] at hs;cases hs
 ·cases hs
theorem nestF_at (s:List UInt8) (l0:List Tk) (hl:∀ t∈l0,t.fr≤s.length):∀ (r:List Tk) (i:Nat) (st:NestS) (e a:Nat),(∀ t∈r,t.fr≤s.length)→nestF s l0 r i st=.bad e a→a≤s.length
 | [],i,st,e,a,_,h=>by
  have key:∀ j,tkFr l0 j≤s.length:=fun j=>by
   unfold tkFr
   cases hj:l0[j]? with
   | none=>exact Nat.zero_le _
   | some t=>exact hl t (List.mem_of_getElem? hj)
  rw [nestF] at h
  split at h
  ·cases h
  ·cases h;exact key _
 | t::r,i,st,e,a,hr,h=>by
  have h1:=hr t (List.mem_cons_self ..)
  have h2:∀ t∈r,t.fr≤s.length:=fun x hx=>hr x (List.mem_cons_of_mem _ hx)
  rw [nestF] at h
  split at h
  ·exact nestF_at s l0 hl r _ _ e a h2 h
  ·split at h
   ·split at h
    ·cases h;exact h1
    ·exact nestF_at s l0 hl r _ _ e a h2 h
   ·split at h
    ·split at h
     ·cases h;exact h1
     ·exact nestF_at s l0 hl r _ _ e a h2 h
    ·exact nestF_at s l0 hl r _ _ e a h2 h
theorem nestN_at {s:List UInt8}{e a:Nat} (h:nestN s=.bad e a):a≤s.length:=by
 unfold nestN at h
 split at h
 ·rename_i hW
  cases h
  unfold nestWR at hW
  split at hW
  ·rename_i hS;cases hW;exact (semiR_bad hS).2
  ·rename_i l hS
   have hf:=(semiR_ok hS).1
   have hf2:∀ t∈l,t.fr≤s.length:=fun t ht=>by have:=hf t ht;exact Nat.le_trans this.1 this.2.1
   exact nestF_at s l hf2 l _ _ _ _ hf2 hW
 ·cases h
theorem readT_at {goal:UInt8}{s:List UInt8}{e a:Nat} (h:readT nestN goal s=.bad e a):a≤s.length:=by
 unfold readT at h
 split at h
 ·cases h;exact Nat.zero_le _
 ·split at h
  ·rename_i hN;cases h;exact nestN_at hN
  ·rename_i l p hN
   have hf:=(semiR_ok (nestN_ok hN)).1
   split at h
   ·cases h
   ·rename_i j _
    cases h
    unfold faultAt
    split
    ·rename_i t ht
     have:=hf t (List.mem_of_getElem? ht)
     exact Nat.le_trans this.1 this.2.1
    ·exact Nat.le_refl _
   ·cases h;exact Nat.zero_le _
end
section
def opsL:List (List UInt8):=[[124,124],[38,38],[61,61],[33,61],[60],[60,61],[62],[62,61],[43],[45],[124],[94],[42],[47],[37],[60,60],[62,62],[38],[38,94]]
structure Alt (E:Env) (m:Nat):Prop where
 len:E.l.length=2*m+2
 name:∀ j:Nat,j≤m→E.kind ((2*j:Nat):Int)=1
 bare:∀ j:Nat,j≤m→E.word ((2*j:Nat):Int)=[]
 op:∀ j:Nat,j < m→E.word ((2*j+1:Nat):Int)∈opsL
 last:E.word ((2*m+1:Nat):Int)=[59]
def lvl (E:Env) (t:Tr):Nat:=if t.kind=37 then levelW (E.word t.word) else 6
inductive Bin (E:Env):Tr→Nat→Nat→Prop where
 | name (a:Nat):Bin E (.mk 26 a a (a+1) []) a (a+1)
 | bin (x y:Tr) (a m b:Nat):Bin E x a m→Bin E y (m+1) b→E.word (m:Int)∈opsL→levelW (E.word (m:Int))≤lvl E x→levelW (E.word (m:Int)) < lvl E y→Bin E (.mk 37 m a b [x,y]) a b
def Res (r:R Tr) (P:Tr→Nat→Prop):Prop:=r=.out∨∃ t n,r=.ok t n∧P t n
theorem Res.sub {r:R Tr}{f:Tr→Nat→R Tr}{P Q:Tr→Nat→Prop} (h:Res r P) (hf:∀ t n,P t n→Res (f t n) Q):Res (r.andThen f) Q:=by
 rcases h with rfl|⟨t,n,rfl,hp⟩
 ·exact .inl rfl
 ·exact hf t n hp
theorem ops_level:∀ w∈opsL,1≤levelW w∧levelW w≤5:=by decide
theorem ops_other:∀ w∈opsL,w≠[46]∧w≠[40]∧w≠[91]∧w≠[123]:=by decide
variable {E:Env}{m:Nat}
theorem Alt.no (A:Alt E m) {j:Nat} (hj:j≤m) {x:UInt8}{w:List UInt8}:E.is (2*j) (x::w)=false:=by
 unfold Env.is;rw [A.bare j hj];rfl
theorem Alt.behind (A:Alt E m) {j:Nat} (hj:j≤m):E.is (2*j+1) [46]=false∧E.is (2*j+1) [40]=false∧E.is (2*j+1) [91]=false∧E.is (2*j+1) [123]=false:=by
 unfold Env.is
 rcases Nat.lt_or_ge j m with h|h
 ·obtain⟨h1,h2,h3,h4⟩:=ops_other _ (A.op j h)
  exact⟨by simpa using h1,by simpa using h2,by simpa using h3,by simpa using h4⟩
 ·obtain rfl:j=m:=by omega
  rw [A.last]
  decide
theorem Alt.unary (A:Alt E m) {j:Nat} (hj:j≤m) (g:Bool):∀ k,Res ((spec E k).t .unary (2*j) g) (fun t n=>n=2*j+1∧t=.mk 26 (2*j:Nat) (2*j) (2*j+1) [])
 | 0=>.inl rfl
 | k+1=>by
  show Res (unaryB E (spec E k) (2*j) g) _
  unfold unaryB
  simp only [A.no hj,Bool.or_false,Bool.false_eq_true,if_false]
  match k with
  | 0=>exact .inl rfl
  | k+1 =>
   show Res (((spec E k).t .operand (2*j) g).andThen fun x n1=>(spec E k).t (.primMore (2*j) x) n1 g) _
   refine Res.sub (P:=fun t n=>n=2*j+1∧t=.mk 26 (2*j:Nat) (2*j) (2*j+1) []) ?_ ?_
   ·match k with
    | 0=>exact .inl rfl
    | k+1 =>
     show Res (operandB E (spec E k) (2*j) g) _
     have hl:E.literal ((2*j:Nat):Int)=false:=by unfold Env.literal;rw [A.name j hj];rfl
     have hn:E.named ((2*j:Nat):Int)=true:=by unfold Env.named;rw [A.name j hj];rfl
     unfold operandB nameT leaf
     simp only [A.no hj,hl,hn,Bool.or_false,Bool.false_eq_true,if_false,if_true]
     exact .inr ⟨_,_,rfl,rfl,rfl⟩
   ·rintro t n ⟨rfl,rfl⟩
    match k with
    | 0=>exact .inl rfl
    | k+1 =>
     show Res (primMoreB E (spec E k) _ _ (2*j+1) g) _
     obtain⟨h1,h2,h3,h4⟩:=A.behind hj
     unfold primMoreB
     simp only [h1,h2,h3,h4,Bool.false_and,Bool.false_eq_true,if_false]
     exact .inr ⟨_,_,rfl,rfl,rfl⟩
def Ups (E:Env) (m a least:Nat) (t:Tr) (n:Nat):Prop:=(∃ i,i≤m∧n=2*i+1)∧Bin E t a n∧least≤lvl E t∧levelW (E.word (n:Int)) < least∧t.fr=a
theorem Alt.both (A:Alt E m) (g:Bool):∀ k,(∀ j least,j≤m→1≤least→least≤6→Res ((spec E k).t (.binary least) (2*j) g) (Ups E m (2*j) least)) ∧
  (∀ i a least x,i≤m→1≤least→least≤6→Bin E x a (2*i+1)→least≤lvl E x→levelW (E.word ((2*i+1:Nat):Int))≤lvl E x→x.fr=a→Res ((spec E k).t (.binMore least a x) (2*i+1) g) (Ups E m a least))
 | 0=>⟨fun _ _ _ _ _=>.inl rfl,fun _ _ _ _ _ _ _ _ _ _ _=>.inl rfl⟩
 | k+1=>by
  obtain⟨h1,h2⟩:=Alt.both A g k
  refine⟨fun j least hj hl hl6=>?_,fun i a least x hi hl hl6 hb hlx hnx hfr=>?_⟩
  ·show Res (((spec E k).t .unary (2*j) g).andThen fun x n1=>(spec E k).t (.binMore least (2*j) x) n1 g) _
   refine Res.sub (A.unary hj g k) ?_
   rintro t n ⟨rfl,rfl⟩
   have h6:lvl E (.mk 26 (2*j:Nat) (2*j) (2*j+1) [])=6:=rfl
   refine h2 j (2*j) least _ hj hl hl6 (Bin.name _) (by rw [h6];exact hl6) ?_ rfl
   rw [h6]
   rcases Nat.lt_or_ge j m with h|h
   ·have:=(ops_level _ (A.op j h)).2;omega
   ·obtain rfl:j=m:=by omega
    rw [A.last];decide
  ·show Res (binMoreB E (spec E k) least a x (2*i+1) g) _
   unfold binMoreB
   by_cases hlt:levelW (E.word ((2*i+1:Nat):Int)) < least
   ·rw [if_pos hlt]
    exact .inr ⟨_,_,rfl,⟨i,hi,rfl⟩,hb,hlx,hlt,hfr⟩
   ·rw [if_neg hlt]
    have him:i < m:=by
     rcases Nat.lt_or_ge i m with h|h
     ·exact h
     ·obtain rfl:i=m:=by omega
      rw [A.last] at hlt
      exact absurd (show levelW [59] < least from hl) hlt
    have hv:=ops_level _ (A.op i him)
    have hr:=h1 (i+1) (levelW (E.word ((2*i+1:Nat):Int))+1) him (by omega) (by omega)
    rw [show 2*(i+1)=2*i+1+1 by omega] at hr
    refine Res.sub hr ?_
    rintro y n1 ⟨⟨i2,hi2,rfl⟩,hby,hly,hny,hfy⟩
    have hlv:lvl E (.mk 37 (2*i+1:Nat) a (2*i2+1) [x,y])=levelW (E.word ((2*i+1:Nat):Int)):=rfl
    refine h2 i2 a least _ hi2 hl hl6 (Bin.bin x y a (2*i+1) (2*i2+1) hb hby (A.op i him) hnx (by omega)) (by rw [hlv];omega) (by rw [hlv];omega) rfl
theorem Alt.tree (A:Alt E m):∃ t,treeT E 2=.ok t (2*m+2)∧Bin E t 0 (2*m+1):=by
 have hne:=goalF_ne (E:=E) 2
 have hs:goalF 2=.expr:=rfl
 rw [hs] at hne
 obtain⟨K,hK⟩:∃ K,stepsT E=K+1:=⟨20*E.l.length+19,rfl⟩
 rw [hK] at hne
 have hr:=(A.both false K).1 0 1 (Nat.zero_le _) (Nat.le_refl _) (by omega)
 have he:(spec E (K+1)).t .expr 0 false=(spec E K).t (.binary 1) 0 false:=rfl
 rw [he] at hne
 rcases hr with h|⟨t,n,h,⟨i,hi,rfl⟩,hb,_,hn,_⟩
 ·exact absurd h hne
 ·have him:i=m:=by
   rcases Nat.lt_or_ge i m with h|h
   ·have:=(ops_level _ (A.op i h)).1;omega
   ·omega
  subst him
  refine⟨t,?_,hb⟩
  unfold treeT
  rw [hs,hK,he]
  have h:(spec E K).t (.binary 1) 0 false=.ok t (2*i+1):=h
  rw [h]
  have hsm:after E [59] (2*i+1)=2*i+2:=by unfold after Env.is;rw [A.last];rfl
  show endT E 2 t (2*i+1)=_
  unfold endT
  have hen:E.ended (2*i+2)=true:=by unfold Env.ended;rw [A.len];simp
  rw [if_pos ⟨by decide,by rw [A.len]⟩,hsm,if_pos hen]
end
section
def altS:List (List UInt8)→List UInt8
 | []=>[120]
 | w::r=>120::32::(w++32::altS r)
def altT:Nat→List (List UInt8)→List Tk
 | k,[]=>[⟨1,k,k+1⟩,⟨9,k+1,k+1⟩]
 | k,w::r=>⟨1,k,k+1⟩::⟨8,k+2,k+2+w.length⟩::altT (k+3+w.length) r
def lexA:Nat→List (List UInt8)→List Tk
 | k,[]=>[⟨1,k,k+1⟩]
 | k,w::r=>⟨1,k,k+1⟩::⟨10,k+1,k+2⟩::⟨8,k+2,k+2+w.length⟩::⟨10,k+2+w.length,k+3+w.length⟩::lexA (k+3+w.length) r
theorem altS_head (ws:List (List UInt8)):∃ r,altS ws=120::r:=by cases ws <;> exact⟨_,rfl⟩
def Asc (l:List UInt8):Prop:=∀ b∈l,0 < b.toNat∧b.toNat < 128
theorem asc_at {l:List UInt8} (h:Asc l) {p:Nat} (hp:p < l.length):∃ b:UInt8,0 < b.toNat∧b.toNat < 128∧dec (l.drop p)=(b.toNat,1):=by
 refine⟨l[p],(h _ (List.getElem_mem hp)).1,(h _ (List.getElem_mem hp)).2,?_⟩
 rw [List.drop_eq_getElem_cons hp]
 exact dec_one (h _ (List.getElem_mem hp)).2
theorem badFrom_asc {l:List UInt8} (h:Asc l):∀ f p,badFrom l f p=-1
 | 0,_=>rfl
 | f+1,p=>by
  rw [badFrom]
  by_cases hp:p < l.length
  ·obtain⟨b,h1,h2,h3⟩:=asc_at h hp
   rw [if_pos hp,if_neg (by rw [h3];intro e;have:b.toNat=65533:=e.1;omega)]
   exact badFrom_asc h f _
  ·rw [if_neg hp]
theorem cleanFrom_asc {l:List UInt8} (h:Asc l):∀ f p,cleanFrom l f p=-1
 | 0,_=>rfl
 | f+1,p=>by
  rw [cleanFrom]
  by_cases hp:p < l.length
  ·obtain⟨b,h1,h2,h3⟩:=asc_at h hp
   rw [if_pos hp,if_neg (by rw [h3];intro e;rcases e with e|e;have:b.toNat=0:=e;omega;have:b.toNat=65279:=e.1;omega)]
   exact cleanFrom_asc h f _
  ·rw [if_neg hp]
theorem clean_asc {l:List UInt8} (h:Asc l):cleanR l=-1:=by
 have hb:badN l=l.length:=by unfold badN badR;rw [badFrom_asc h];rfl
 unfold cleanR
 rw [hb,List.take_length,cleanFrom_asc h,if_neg (by decide),if_neg (by omega)]
theorem ops_asc:∀ w∈opsL,w≠[]∧(∀ b∈w,0 < b.toNat∧b.toNat < 128):=by decide
theorem alt_asc:∀ ws:List (List UInt8),(∀ w∈ws,w∈opsL)→Asc (altS ws)
 | [],_=>by intro b hb;simp [altS] at hb;subst hb;decide
 | w::r,h=>by
  intro b hb
  simp only [altS,List.mem_cons,List.mem_append] at hb
  rcases hb with rfl|rfl|hb|rfl|hb
  ·decide
  ·decide
  ·exact (ops_asc w (h w (.head _))).2 b hb
  ·decide
  ·exact alt_asc r (fun x hx=>h x (.tail _ hx)) b hb
theorem kind_x {l r:List UInt8}{k:Nat} (hd:l.drop k=120::r) (hk:k < l.length) (hr:r=[]∨∃ r',r=32::r'):kindK l k=(1,(k:Int)+1):=by
 have hR:=readR_one hd hk (by decide)
 have hN:wordN (120::r)=1:=by
  have h0:letterB ((120:UInt8).toNat:Int)=true:=by decide +kernel
  have h1:(letterB ((32:UInt8).toNat:Int)||digitB ((32:UInt8).toNat:Int))=false:=by decide +kernel
  unfold wordN
  rw [List.length_cons,wordFrom,if_pos (by simp),List.drop_zero,dec_one (by decide),h0,Bool.true_or,if_pos rfl]
  rcases hr with rfl|⟨r',rfl⟩
  ·rfl
  ·rw [List.length_cons,wordFrom,if_pos (by simp)]
   show (if (letterB ((dec (32::r')).1:Int)||digitB ((dec (32::r')).1:Int))=true then _ else _)=1
   rw [dec_one (by decide),h1,if_neg (by decide)]
   rfl
 have hW:wordK l k=1:=by unfold wordK;rw [hd,hN];rfl
 have hp1:Lib.hasPrefix (120::r) [47,47]=false:=rfl
 have hp2:Lib.hasPrefix (120::r) [47,42]=false:=rfl
 have hl:letterB ((120:UInt8).toNat:Int)=true:=by decide +kernel
 unfold kindK
 rw [hR,hd,hN,hW,hp1,hp2,hl]
 rfl
theorem ops_first:∀ w∈opsL,∃ b t,w=b::t∧b.toNat < 128∧((b.toNat:Int)==65279)=false∧blankB (b.toNat:Int)=false∧letterB (b.toNat:Int)=false∧((b.toNat:Int)==59)=false∧10≤Num.val (b.toNat:Int)∧b.toNat≠46∧Lib.indexByte ([39,34,96]:List UInt8) b < 0∧([32,9,13,10]:List UInt8).contains b=false:=by
 intro w hw
 simp only [opsL,List.mem_cons,List.not_mem_nil,or_false] at hw
 rcases hw with rfl|rfl|rfl|rfl|rfl|rfl|rfl|rfl|rfl|rfl|rfl|rfl|rfl|rfl|rfl|rfl|rfl|rfl|rfl
 all_goals exact⟨_,_,rfl,by decide +kernel⟩
theorem kind_op {l r w:List UInt8}{k:Nat} (hw:w∈opsL) (hd:l.drop k=w++32::120::r) (hk:k < l.length):kindK l k=(8,(k:Int)+w.length):=by
 obtain⟨b,t,hwb,h1,h2,h3,h4,h5,h6,h7,h8,_⟩:=ops_first w hw
 have hd2:l.drop k=b::(t++32::120::r):=by rw [hd,hwb];rfl
 have hsg:signN (l.drop k)=w.length:=by
  rw [hd]
  have hm:min 3 (w++32::120::r).length=3:=by
   rw [hwb,List.length_append,List.length_cons,List.length_cons,List.length_cons];omega
  unfold signN
  rw [hm]
  clear hd hwb hd2 hm
  simp only [opsL,List.mem_cons,List.not_mem_nil,or_false] at hw
  rcases hw with rfl|rfl|rfl|rfl|rfl|rfl|rfl|rfl|rfl|rfl|rfl|rfl|rfl|rfl|rfl|rfl|rfl|rfl|rfl
  all_goals rfl
 have hp:Lib.hasPrefix (l.drop k) [47,47]=false∧Lib.hasPrefix (l.drop k) [47,42]=false:=by
  rw [hd]
  clear hd hwb hd2 hsg
  simp only [opsL,List.mem_cons,List.not_mem_nil,or_false] at hw
  rcases hw with rfl|rfl|rfl|rfl|rfl|rfl|rfl|rfl|rfl|rfl|rfl|rfl|rfl|rfl|rfl|rfl|rfl|rfl|rfl
  all_goals exact⟨rfl,rfl⟩
 have hR:=readR_one hd2 hk h1
 unfold kindK
 rw [hR,hp.1,hp.2,hsg]
 rw [show (((b.toNat:Int),(1:Int)).1==65279)=false from h2,show blankB (((b.toNat:Int),(1:Int)).1)=false from h3,show letterB (((b.toNat:Int),(1:Int)).1)=false from h4,show (((b.toNat:Int),(1:Int)).1==59)=false from h5]
 rw [scan_none hd2 h6 h7,quote_none hd2 hk h8]
 have hpos:decide (0 < w.length)=true:=by rw [hwb];simp
 rw [hpos]
 rfl
theorem altS_len:∀ ws:List (List UInt8),0 < (altS ws).length:=fun ws=>by obtain⟨r,h⟩:=altS_head ws;rw [h];simp
theorem lex_alt (l:List UInt8):∀ (ws:List (List UInt8)) (f k:Nat) (acc:List Tk),(∀ w∈ws,w∈opsL)→l.drop k=altS ws→(altS ws).length≤f→lexF l f k acc=.ok (acc++lexA k ws)
 | [],f,k,acc,_,hd,hf=>by
  have hlen:=congrArg List.length hd
  simp only [altS,List.length_drop,List.length_cons,List.length_nil] at hlen hf
  obtain⟨f,rfl⟩:∃ g,f=g+1:=⟨f - 1,by omega⟩
  rw [lex_step (kd:=1) (t:=k+1) (by omega) (kind_x hd (by omega) (.inl rfl)) (by decide),lexF_end (by omega)]
  rfl
 | w::r,f,k,acc,hw,hd,hf=>by
  have hw0:=hw w (.head _)
  have hpos:0 < w.length:=by obtain⟨b,t,e,_⟩:=ops_first w hw0;rw [e];simp
  have hlen:=congrArg List.length hd
  simp only [altS,List.length_drop,List.length_cons,List.length_append] at hlen hf
  have hrl:=altS_len r
  obtain⟨f,rfl⟩:∃ g,f=g+4:=⟨f - 4,by omega⟩
  have hd1:l.drop (k+1)=32::(w++32::altS r):=by rw [← List.drop_drop,hd];rfl
  have hd2:l.drop (k+2)=w++32::altS r:=by rw [← List.drop_drop,hd];rfl
  have hd3:l.drop (k+2+w.length)=32::altS r:=by rw [← List.drop_drop,hd2,List.drop_left]
  have hd4:l.drop (k+3+w.length)=altS r:=by rw [show k+3+w.length=k+2+w.length+1 by omega,← List.drop_drop,hd3];rfl
  obtain⟨b,t,hb,_,_,_,_,_,_,_,_,hbl⟩:=ops_first w hw0
  obtain⟨r',hr'⟩:=altS_head r
  have hk1:kindK l (k+1)=(10,((k+1:Nat):Int)+1):=kind_blank (b:=b) (r:=t++32::altS r) (by rw [hd1,hb];rfl) (by omega) hbl
  have hk2:kindK l (k+2)=(8,((k+2:Nat):Int)+w.length):=kind_op (r:=r') hw0 (by rw [hd2,hr']) (by omega)
  have hk3:kindK l (k+2+w.length)=(10,((k+2+w.length:Nat):Int)+1):=kind_blank (b:=120) (r:=r') (by rw [hd3,hr']) (by omega) (by decide)
  rw [lex_step (kd:=1) (t:=k+1) (by omega) (kind_x hd (by omega) (.inr ⟨_,rfl⟩)) (by decide)]
  rw [lex_step (kd:=10) (t:=k+2) (by omega) (by rw [hk1];rfl) (by decide)]
  rw [lex_step (kd:=8) (t:=k+2+w.length) (by omega) (by rw [hk2];simp) (by decide)]
  rw [lex_step (kd:=10) (t:=k+3+w.length) (by omega) (by rw [hk3];simp;omega) (by decide)]
  rw [lex_alt l r f (k+3+w.length) _ (fun x hx=>hw x (.tail _ hx)) hd4 (by omega)]
  simp [lexA]
theorem ops_endsno:∀ w∈opsL,endsB 8 w=false:=by decide
theorem semi_alt (l:List UInt8):∀ (ws:List (List UInt8)) (k:Nat) (o:Option Nat) (out:List Tk),(∀ w∈ws,w∈opsL)→l.drop k=altS ws→flushS (semiF l (lexA k ws) (o,out))=out++altT k ws
 | [],k,o,out,_,hd=>by
  have h1:semiStep l ⟨1,k,k+1⟩ (o,out)=(some (k+1),out++[⟨1,k,k+1⟩]):=by
   unfold semiStep
   rw [if_neg (show ¬ silentB 1=true by decide)]
   rfl
  show flushS (semiF l [] (semiStep l ⟨1,k,k+1⟩ (o,out)))=_
  rw [h1]
  simp [semiF,flushS,altT]
 | w::r,k,o,out,hw,hd=>by
  have hw0:=hw w (.head _)
  have hd1:l.drop (k+1)=[32]++(w++32::altS r):=by rw [← List.drop_drop,hd];rfl
  have hd2:l.drop (k+2)=w++32::altS r:=by rw [← List.drop_drop,hd];rfl
  have hd3:l.drop (k+2+w.length)=[32]++altS r:=by rw [← List.drop_drop,hd2,List.drop_left];rfl
  have hd4:l.drop (k+3+w.length)=altS r:=by rw [show k+3+w.length=k+2+w.length+1 by omega,← List.drop_drop,hd3];rfl
  have h1:semiStep l ⟨1,k,k+1⟩ (o,out)=(some (k+1),out++[⟨1,k,k+1⟩]):=by
   unfold semiStep
   rw [if_neg (show ¬ silentB 1=true by decide)]
   rfl
  have h2:∀ st,semiStep l ⟨10,k+1,k+2⟩ st=st:=fun st=>by
   have ht:tkText l ⟨10,k+1,k+2⟩=[32]:=tkText_at hd1
   unfold semiStep
   rw [if_pos (show silentB 10=true by decide),ht,if_neg (by decide)]
  have h3:∀ st:Option Nat × List Tk,semiStep l ⟨8,k+2,k+2+w.length⟩ st=(none,st.2++[⟨8,k+2,k+2+w.length⟩]):=fun st=>by
   have ht:tkText l ⟨8,k+2,k+2+w.length⟩=w:=tkText_at hd2
   unfold semiStep
   rw [if_neg (show ¬ silentB 8=true by decide),ht,ops_endsno w hw0]
   rfl
  have h4:∀ st,semiStep l ⟨10,k+2+w.length,k+3+w.length⟩ st=st:=fun st=>by
   have ht:tkText l ⟨10,k+2+w.length,k+3+w.length⟩=[32]:=by
    have:=tkText_at (kd:=10) hd3
    rwa [show k+2+w.length+([32]:List UInt8).length=k+3+w.length by simp;omega] at this
   unfold semiStep
   rw [if_pos (show silentB 10=true by decide),ht,if_neg (by decide)]
  show flushS (semiF l (lexA (k+3+w.length) r) (semiStep l _ (semiStep l _ (semiStep l _ (semiStep l _ (o,out))))))=_
  rw [h1,h2,h3,h4,semi_alt l r _ _ _ (fun x hx=>hw x (.tail _ hx)) hd4]
  simp [altT]
theorem semi_all {ws:List (List UInt8)} (hw:∀ w∈ws,w∈opsL) (hl:(altS ws).length≤65536):semiR (altS ws)=.ok (altT 0 ws):=by
 have hA:allR (altS ws)=.ok (lexA 0 ws):=by
  unfold allR
  rw [if_neg (by omega),clean_asc (alt_asc ws hw),if_neg (by omega),lex_alt _ ws _ 0 [] hw rfl (Nat.le_refl _)]
  rfl
 unfold semiR
 rw [hA]
 show TokR.ok _=_
 rw [semi_alt _ ws 0 none [] hw rfl]
 rfl
theorem ops_single:∀ w∈opsL,w.length=1→∃ b,w=[b]∧partB b=0∧b≠41∧b≠93∧b≠125:=by
 intro w hw
 simp only [opsL,List.mem_cons,List.not_mem_nil,or_false] at hw
 rcases hw with rfl|rfl|rfl|rfl|rfl|rfl|rfl|rfl|rfl|rfl|rfl|rfl|rfl|rfl|rfl|rfl|rfl|rfl|rfl
 all_goals first|(intro h;exact absurd h (by decide))|(intro _;exact⟨_,rfl,by decide⟩)
theorem nest_alt (s:List UInt8) (l0:List Tk):∀ (ws:List (List UInt8)) (k i:Nat) (pr:List Int) (mo:Nat),(∀ w∈ws,w∈opsL)→s.drop k=altS ws→∃ p,nestF s l0 (altT k ws) i ⟨pr,[],mo⟩=.ok l0 p mo
 | [],k,i,pr,mo,_,hd=>by
  show ∃ p,nestF s l0 [⟨1,k,k+1⟩,⟨9,k+1,k+1⟩] i ⟨pr,[],mo⟩=_
  rw [nestF,if_pos (.inl (show (1:UInt8)≠8 by decide)),nestF,if_pos (.inl (show (9:UInt8)≠8 by decide)),nestF,if_pos rfl]
  exact⟨_,rfl⟩
 | w::r,k,i,pr,mo,hw,hd=>by
  have hw0:=hw w (.head _)
  have hd2:s.drop (k+2)=w++32::altS r:=by rw [← List.drop_drop,hd];rfl
  have hd3:s.drop (k+2+w.length)=32::altS r:=by rw [← List.drop_drop,hd2,List.drop_left]
  have hd4:s.drop (k+3+w.length)=altS r:=by rw [show k+3+w.length=k+2+w.length+1 by omega,← List.drop_drop,hd3];rfl
  show ∃ p,nestF s l0 (⟨1,k,k+1⟩::⟨8,k+2,k+2+w.length⟩::altT (k+3+w.length) r) i ⟨pr,[],mo⟩=_
  rw [nestF,if_pos (.inl (show (1:UInt8)≠8 by decide)),nestF]
  by_cases h1:w.length=1
  ·obtain⟨b,rfl,hb1,hb2,hb3,hb4⟩:=ops_single w hw0 h1
   have hby:byteAt s (k+2)=b:=by unfold byteAt;rw [bat_at hd2];rfl
   rw [if_neg (fun h=>h.elim (fun h=>h rfl) (fun h=>h (by show k+2+1 - (k+2)=1;omega)))]
   show ∃ p,(if partB (byteAt s (k+2))≠0 then _ else _)=_
   rw [hby,if_neg (by simp [hb1])]
   show ∃ p,(if b=41∨b=93∨b=125 then _ else _)=_
   rw [if_neg (by simp [hb2,hb3,hb4])]
   exact nest_alt s l0 r _ _ _ _ (fun x hx=>hw x (.tail _ hx)) hd4
  ·rw [if_pos (.inr (by show k+2+w.length - (k+2)≠1;omega))]
   exact nest_alt s l0 r _ _ _ _ (fun x hx=>hw x (.tail _ hx)) hd4
theorem nestN_alt {ws:List (List UInt8)} (hw:∀ w∈ws,w∈opsL) (hl:(altS ws).length≤65536):∃ p,nestN (altS ws)=.ok (altT 0 ws) p:=by
 obtain⟨p,hp⟩:=nest_alt (altS ws) (altT 0 ws) ws 0 0 (List.replicate (altT 0 ws).length 0) 0 hw rfl
 refine⟨p,?_⟩
 unfold nestN nestWR
 rw [semi_all hw hl]
 show (match nestF (altS ws) (altT 0 ws) (altT 0 ws) 0 ⟨List.replicate (altT 0 ws).length 0,[],0⟩ with|.bad e a=>NestR.bad e a|.ok l p _=>.ok l p)=_
 rw [hp]
theorem altT_len:∀ (ws:List (List UInt8)) (k:Nat),(altT k ws).length=2*ws.length+2
 | [],_=>rfl
 | w::r,k=>by rw [altT,List.length_cons,List.length_cons,altT_len r,List.length_cons];omega
theorem altT_at {s:List UInt8}:∀ (ws:List (List UInt8)) (k:Nat),s.drop k=altS ws→(∀ j,j≤ws.length→∃ t,(altT k ws)[2*j]?=some t∧t.kind=1)∧(∀ j w,ws[j]?=some w→∃ t,(altT k ws)[2*j+1]?=some t∧t.kind=8∧(s.take t.to).drop t.fr=w)∧(∃ t,(altT k ws)[2*ws.length+1]?=some t∧t.kind=9)
 | [],k,hd=>by
  refine⟨fun j hj=>?_,(fun j w h=>by simp at h),⟨_,rfl,rfl⟩⟩
  obtain rfl:j=0:=by simpa using hj
  exact⟨_,rfl,rfl⟩
 | w::r,k,hd=>by
  have hd2:s.drop (k+2)=w++32::altS r:=by rw [← List.drop_drop,hd];rfl
  have hd3:s.drop (k+2+w.length)=32::altS r:=by rw [← List.drop_drop,hd2,List.drop_left]
  have hd4:s.drop (k+3+w.length)=altS r:=by rw [show k+3+w.length=k+2+w.length+1 by omega,← List.drop_drop,hd3];rfl
  obtain⟨h1,h2,h3⟩:=altT_at r _ hd4
  refine⟨fun j hj=>?_,fun j x hx=>?_,?_⟩
  ·cases j with
   | zero=>exact⟨_,rfl,rfl⟩
   | succ j =>
    obtain⟨t,ht,hk⟩:=h1 j (by simpa using hj)
    exact⟨t,by rw [show 2*(j+1)=2*j+1+1 by omega,altT];simpa using ht,hk⟩
  ·cases j with
   | zero =>
    obtain rfl:w=x:=by simpa using hx
    refine⟨_,rfl,rfl,?_⟩
    have:=tkText_at (kd:=8) hd2
    unfold tkText at this
    rw [List.drop_take]
    exact this
   | succ j =>
    obtain⟨t,ht,hk⟩:=h2 j x (by simpa using hx)
    exact⟨t,by rw [show 2*(j+1)+1=2*j+1+1+1 by omega,altT];simpa using ht,hk⟩
  ·obtain⟨t,ht,hk⟩:=h3
   exact⟨t,by rw [List.length_cons,show 2*(r.length+1)+1=2*r.length+1+1+1 by omega,altT];simpa using ht,hk⟩
theorem alt_all {ws:List (List UInt8)} (hw:∀ w∈ws,w∈opsL) (p:List Int):Alt ⟨altS ws,altT 0 ws,p⟩ ws.length∧∀ j w,ws[j]?=some w→Env.word ⟨altS ws,altT 0 ws,p⟩ ((2*j+1:Nat):Int)=w:=by
 obtain⟨h1,h2,h3⟩:=altT_at (s:=altS ws) ws 0 rfl
 have hz:∀ n:Nat,¬ ((n:Int) < 0):=fun n=>by omega
 have hword:∀ (n:Nat) (t:Tk),(altT 0 ws)[n]?=some t→Env.word ⟨altS ws,altT 0 ws,p⟩ (n:Int)=if t.kind=9 then [59] else if t.kind=8∨t.kind=2 then ((altS ws).take t.to).drop t.fr else []:=fun n t ht=>by
  unfold Env.word
  rw [if_neg (hz n),Int.toNat_natCast]
  show (match (altT 0 ws)[n]? with|none=>_|some t=>_)=_
  rw [ht]
 have hop:∀ j w,ws[j]?=some w→Env.word ⟨altS ws,altT 0 ws,p⟩ ((2*j+1:Nat):Int)=w:=fun j w hj=>by
  obtain⟨t,ht,hk,hx⟩:=h2 j w hj
  rw [hword _ t ht,hk,if_neg (by decide),if_pos (by decide),hx]
 refine⟨⟨altT_len ws 0,fun j hj=>?_,fun j hj=>?_,fun j hj=>?_,?_⟩,hop⟩
 ·obtain⟨t,ht,hk⟩:=h1 j hj
  unfold Env.kind
  rw [if_neg (hz _),Int.toNat_natCast]
  show (match (altT 0 ws)[2*j]? with|none=>_|some t=>t.kind)=_
  rw [ht]
  exact hk
 ·obtain⟨t,ht,hk⟩:=h1 j hj
  rw [hword _ t ht,hk]
  rfl
 ·have he:ws[j]?=some ws[j]:=List.getElem?_eq_getElem hj
  rw [hop j _ he]
  exact hw _ (List.getElem_mem hj)
 ·obtain⟨t,ht,hk⟩:=h3
  rw [hword _ t ht,hk]
  rfl
end
section
mutual
def endsP:Tr→Nat→List Nat
 | .mk _ _ _ _ ks,i=>(i+(1+cntL ks))::endsPL ks (i+1)
def endsPL:List Tr→Nat→List Nat
 | [],_=>[]
 | t::ts,i=>endsP t i++endsPL ts (i+cnt t)
end
def startsL:List Tr→Nat→List Nat
 | [],_=>[]
 | t::ts,i=>i::startsL ts (i+cnt t)
mutual
theorem endsP_len:∀ (t:Tr) (i:Nat),(endsP t i).length=cnt t
 | .mk _ _ _ _ ks,i=>by rw [endsP,List.length_cons,endsPL_len ks,cnt];omega
theorem endsPL_len:∀ (ts:List Tr) (i:Nat),(endsPL ts i).length=cntL ts
 | [],_=>rfl
 | t::ts,i=>by rw [endsPL,List.length_append,endsP_len t,endsPL_len ts,cntL]
end
theorem startsL_len:∀ (ts:List Tr) (i:Nat),(startsL ts i).length=ts.length
 | [],_=>rfl
 | t::ts,i=>by rw [startsL,List.length_cons,startsL_len ts,List.length_cons]
theorem endsP_head (t:Tr) (i:Nat):∃ r,endsP t i=(i+cnt t)::r:=by obtain⟨k,w,f,n,ks⟩:=t;exact⟨_,by rw [endsP,cnt]⟩
theorem ends_last:∀ (t:Tr) (ts:List Tr) (i:Nat) (o:List Nat),i≤(startsL (t::ts) i).getD ts.length 0∧(endsPL (t::ts) i++o).getD ((startsL (t::ts) i).getD ts.length 0 - i) 0=i+cntL (t::ts)
 | t,[],i,o=>by
  obtain⟨r,hr⟩:=endsP_head t i
  refine⟨by simp [startsL],?_⟩
  simp [startsL,endsPL,hr,cntL]
 | t,t2::ts,i,o=>by
  obtain⟨h1,h2⟩:=ends_last t2 ts (i+cnt t) o
  have e:(startsL (t::t2::ts) i).getD (t2::ts).length 0=(startsL (t2::ts) (i+cnt t)).getD ts.length 0:=by
   rw [startsL,List.length_cons,List.getD_cons_succ]
  rw [e]
  refine⟨by omega,?_⟩
  rw [endsPL,List.append_assoc,List.getD_eq_getElem?_getD,List.getElem?_append_right (by rw [endsP_len];omega),endsP_len,← List.getD_eq_getElem?_getD]
  have e2:(startsL (t2::ts) (i+cnt t)).getD ts.length 0 - i - cnt t=(startsL (t2::ts) (i+cnt t)).getD ts.length 0 - (i+cnt t):=by omega
  rw [e2,h2,cntL,Nat.add_assoc]
  rfl
mutual
theorem ends_vals (E:Env):∀ (t:Tr) (r:List Int) (i:Nat) (o st:List Nat),Grd.endsL r (i+cnt t)=some (o,st)→Grd.endsL (kidsI (parts E t)++r) i=some (endsP t i++o,i::st)
 | .mk k wd f t ks,r,i,o,st,h=>by
  have h1:=ends_valsL E ks r (i+1) o st (by rw [show i+1+cntL ks=i+cnt (.mk k wd f t ks) by simp only [cnt];omega];exact h)
  have e0:kidsI (parts E (.mk k wd f t ks))=(ks.length:Int)::kidsI (partsL E ks):=by rw [parts];rfl
  rw [e0,List.cons_append,Grd.endsL,h1]
  simp only []
  have e:(startsL ks (i+1)++st).drop ((ks.length:Int)).toNat=st:=by rw [Int.toNat_natCast,← startsL_len ks (i+1),List.drop_left]
  rw [if_pos ⟨by omega,by rw [List.length_append,startsL_len];omega⟩,e]
  cases ks with
  | nil=>rfl
  | cons x ks =>
   rw [if_neg (by simp;omega)]
   have e1:((startsL (x::ks) (i+1)++st).getD (((x::ks).length:Int).toNat - 1) 0)=(startsL (x::ks) (i+1)).getD ks.length 0:=by
    rw [Int.toNat_natCast,List.length_cons,Nat.add_sub_cancel,List.getD_eq_getElem?_getD,List.getElem?_append_left (by rw [startsL_len,List.length_cons];omega),← List.getD_eq_getElem?_getD]
   rw [e1,(ends_last x ks (i+1) o).2,endsP]
   simp only [Option.some.injEq,Prod.mk.injEq,List.cons_append,List.cons.injEq,and_true]
   omega
theorem ends_valsL (E:Env):∀ (ts:List Tr) (r:List Int) (i:Nat) (o st:List Nat),Grd.endsL r (i+cntL ts)=some (o,st)→Grd.endsL (kidsI (partsL E ts)++r) i=some (endsPL ts i++o,startsL ts i++st)
 | [],r,i,o,st,h=>h
 | t::ts,r,i,o,st,h=>by
  have h1:=ends_valsL E ts r (i+cnt t) o st (by rw [Nat.add_assoc];exact h)
  have h3:=ends_vals E t (kidsI (partsL E ts)++r) i _ _ h1
  rw [partsL,kidsI_append,List.append_assoc,h3,endsPL,List.append_assoc]
  rfl
end
theorem ends_all (E:Env) (t:Tr):Grd.endsL (kidsI (parts E t)) 0=some (endsP t 0,[0]):=by
 have:=ends_vals E t [] 0 [] [] rfl
 simpa using this
def AtP (E:Env) (root:Tr) (i:Nat) (x:Tr):Prop:=(∃ r,(parts E root).drop i=parts E x++r)∧∃ r,(endsP root 0).drop i=endsP x i++r
theorem AtP.root (E:Env) (t:Tr):AtP E t 0 t:=⟨⟨[],by simp⟩,⟨[],by simp⟩⟩
theorem AtP.two {E:Env}{root x y:Tr}{i:Nat}{wd:Int}{f t:Nat}{kd:UInt8} (h:AtP E root i (.mk kd wd f t [x,y])):AtP E root (i+1) x∧AtP E root (i+1+cnt x) y:=by
 obtain⟨⟨r,h1⟩,r2,h2⟩:=h
 rw [parts] at h1
 rw [endsP] at h2
 have p1:(parts E root).drop (i+1)=parts E x++(parts E y++r):=by rw [← List.drop_drop,h1];simp [partsL]
 have p2:(endsP root 0).drop (i+1)=endsP x (i+1)++(endsP y (i+1+cnt x)++r2):=by rw [← List.drop_drop,h2];simp [endsPL]
 refine⟨⟨⟨_,p1⟩,_,p2⟩,⟨r,?_⟩,r2,?_⟩
 ·rw [← List.drop_drop,p1,← parts_len E x,List.drop_left]
 ·rw [← List.drop_drop,p2,← endsP_len x (i+1),List.drop_left]
end
section
def tkx (E:Env) (i:Nat):List UInt8:=32::E.text (i:Int)
def inTx (E:Env) (a n:Nat):List UInt8:=(List.range' a n).flatMap (tkx E)
theorem inTx_add (E:Env) (a n k:Nat):inTx E a (n+k)=inTx E a n++inTx E (a+n) k:=by
 unfold inTx
 rw [← List.flatMap_append,List.range'_append_1]
theorem inTx_one (E:Env) (a:Nat):inTx E a 1=tkx E a:=by simp [inTx]
theorem ops_text {E:Env}{m:Nat} (h:E.word (m:Int)∈opsL):E.text (m:Int)=E.word (m:Int):=by
 unfold Env.word at h ⊢
 unfold Env.text
 rw [if_neg (by omega)] at h ⊢
 rw [if_neg (by omega)]
 cases ht:E.l[(m:Int).toNat]? with
 | none=>rfl
 | some t =>
  rw [ht] at h
  simp only at h ⊢
  split at h
  ·exact absurd h (by decide)
  ·split at h
   ·rename_i h1 h2;rw [if_neg h1,if_pos h2]
   ·exact absurd h (by decide)
theorem Bin.lt {E:Env}{t:Tr}{a b:Nat} (h:Bin E t a b):a < b:=by
 induction h with
 | name a=>exact Nat.lt_succ_self a
 | bin x y a m b _ _ _ _ _ h1 h2=>omega
theorem Bin.kind {E:Env}{t:Tr}{a b:Nat} (h:Bin E t a b):t.kind=26∨t.kind=37:=by
 cases h with
 | name a=>exact .inl rfl
 | bin=>exact .inr rfl
theorem Bin.level {E:Env}{t:Tr}{a b:Nat} (h:Bin E t a b):t.kind=37→lvl E t=levelW (E.text t.word):=by
 intro hk
 cases h with
 | name a=>exact absurd (show (26:UInt8)=37 from hk) (by decide)
 | bin x y a m b _ _ h3 _ _ =>
  show (if (37:UInt8)=37 then levelW (E.word (m:Int)) else 6)=levelW (E.text (m:Int))
  rw [if_pos rfl]
  show levelW (E.word (m:Int))=levelW (E.text (m:Int))
  rw [ops_text h3]
inductive Stk (E:Env) (root:Tr):List Int→List UInt8→Nat→Prop where
 | nil:Stk E root [] [] 0
 | tree (i:Nat) (x:Tr) (a b:Nat) (st:List Int) (tx:List UInt8) (n:Nat):AtP E root i x→Bin E x a b→Stk E root st tx n→Stk E root ((i:Int)::st) (inTx E a (b - a)++tx) (2*cnt x+n)
 | op (i m f t:Nat) (ks:List Tr) (st:List Int) (tx:List UInt8) (n:Nat):AtP E root i (.mk 37 m f t ks)→Stk E root st tx n→Stk E root ((-1 - (i:Int))::st) (tkx E m++tx) (1+n)
theorem AtP.part {E:Env}{root x:Tr}{i:Nat} (h:AtP E root i x):(parts E root)[i]?=some ⟨x.kind,x.kids.length,partW E x.kind x.word⟩∧(endsP root 0)[i]?=some (i+cnt x):=by
 obtain⟨⟨r,h1⟩,r2,h2⟩:=h
 obtain⟨k,w,f,t,ks⟩:=x
 constructor
 ·have:=congrArg (·[0]?) h1
  rw [parts] at this
  have:(parts E root)[i]?=some ⟨k,ks.length,partW E k w⟩:=by simpa using this
  exact this
 ·have:=congrArg (·[0]?) h2
  rw [endsP] at this
  rw [cnt]
  simpa using this
theorem AtP.lt {E:Env}{root x:Tr}{i:Nat} (h:AtP E root i x):i+cnt x≤(parts E root).length:=by
 obtain⟨⟨r,h1⟩,_⟩:=h
 have h2:=congrArg List.length h1
 rw [List.length_drop,List.length_append,parts_len E x] at h2
 have:=cnt_pos x
 omega
theorem Stk.bin {E:Env}{root x y:Tr}{i a m b:Nat}{st:List Int}{tx:List UInt8}{n:Nat} (hA:AtP E root i (.mk 37 m a b [x,y])) (hx:Bin E x a m) (hy:Bin E y (m+1) b) (hs:Stk E root st tx n) :
  Stk E root (((i+1:Nat):Int)::(-1 - (i:Int))::((i+1+cnt x:Nat):Int)::st) (inTx E a (b - a)++tx) (2*cnt x+(1+(2*cnt y+n))):=by
 obtain⟨h1,h2⟩:=hA.two
 have l1:=hx.lt
 have l2:=hy.lt
 have e:inTx E a (b - a)++tx=inTx E a (m - a)++(tkx E m++(inTx E (m+1) (b - (m+1))++tx)):=by
  rw [show b - a=(m - a)+(1+(b - (m+1))) by omega,inTx_add,inTx_add,inTx_one,show a+(m - a)=m by omega]
  simp
 rw [e]
 exact .tree _ x a m _ _ _ h1 hx (.op i m a b _ _ _ _ hA (.tree _ y (m+1) b _ _ _ h2 hy hs))
theorem tkText_eq {E:Env}{n:Nat}{t:Tk} (h:E.l[n]?=some t):E.text (n:Int)=(E.s.take t.to).drop t.fr:=by
 unfold Env.text
 rw [if_neg (by omega),Int.toNat_natCast,h]
theorem inTx_alt {s:List UInt8}{p:List Int}{l:List Tk}:∀ (ws:List (List UInt8)) (k n:Nat),s.drop k=altS ws→(∀ j t,(altT k ws)[j]?=some t→l[n+j]?=some t)→inTx ⟨s,l,p⟩ n (2*ws.length+1)=32::altS ws
 | [],k,n,hd,hl=>by
  rw [show 2*([]:List (List UInt8)).length+1=1 from rfl,inTx_one]
  unfold tkx
  have h0:=hl 0 ⟨1,k,k+1⟩ rfl
  rw [tkText_eq (E:=⟨s,l,p⟩) (n:=n) h0,List.drop_take]
  show 32::(s.drop k).take (k+1 - k)=_
  rw [hd,show k+1 - k=1 by omega]
  rfl
 | w::r,k,n,hd,hl=>by
  have hd2:s.drop (k+2)=w++32::altS r:=by rw [← List.drop_drop,hd];rfl
  have hd3:s.drop (k+2+w.length)=32::altS r:=by rw [← List.drop_drop,hd2,List.drop_left]
  have hd4:s.drop (k+3+w.length)=altS r:=by rw [show k+3+w.length=k+2+w.length+1 by omega,← List.drop_drop,hd3];rfl
  have h0:=hl 0 ⟨1,k,k+1⟩ rfl
  have h1:=hl 1 ⟨8,k+2,k+2+w.length⟩ rfl
  have hr:=inTx_alt (p:=p) (l:=l) r (k+3+w.length) (n+2) hd4 (fun j t hj=>by
   rw [show n+2+j=n+(j+2) by omega]
   exact hl (j+2) t (by rw [altT];simpa using hj))
  rw [show 2*(w::r).length+1=1+(1+(2*r.length+1)) by rw [List.length_cons];omega,inTx_add,inTx_add,inTx_one,inTx_one,show n+1+1=n+2 from rfl,hr]
  unfold tkx
  rw [tkText_eq (E:=⟨s,l,p⟩) (n:=n) h0,tkText_eq (E:=⟨s,l,p⟩) (n:=n+1) h1,List.drop_take,List.drop_take]
  show (32::(s.drop k).take (k+1 - k))++((32::(s.drop (k+2)).take (k+2+w.length - (k+2)))++_)=_
  rw [hd,hd2,show k+1 - k=1 by omega,show k+2+w.length - (k+2)=w.length by omega,List.take_left]
  simp [altS]
theorem levels_read {ws:List (List UInt8)} (hw:∀ w∈ws,w∈opsL) (hl:(altS ws).length≤65536):∃ l t,readT nestN 2 (altS ws)=.ok l t∧cnt t=2*ws.length+1∧Stk ⟨altS ws,l,[]⟩ t [0] (32::altS ws) (2*cnt t):=by
 obtain⟨p,hN⟩:=nestN_alt hw hl
 obtain⟨A,_⟩:=alt_all hw p
 obtain⟨t,hT,hB⟩:=A.tree
 have hR:readT nestN 2 (altS ws)=.ok (altT 0 ws) t:=by
  unfold readT
  rw [hN]
  show (match treeT ⟨altS ws,altT 0 ws,p⟩ 2 with|.ok t _=>_|.bad k=>_|.out=>_)=_
  rw [hT]
 refine⟨altT 0 ws,t,hR,?_,?_⟩
 ·have:∀ (t:Tr) (a b:Nat),Bin ⟨altS ws,altT 0 ws,p⟩ t a b→cnt t=b - a:=fun t a b h=>by
   induction h with
   | name a=>simp [cnt,cntL]
   | bin x y a m b hx hy _ _ _ h1 h2 =>
    have:=hx.lt;have:=hy.lt
    simp only [cnt,cntL];omega
  rw [this t _ _ hB];omega
 ·have hB:Bin ⟨altS ws,altT 0 ws,[]⟩ t 0 (2*ws.length+1):=by
   have:∀ (t:Tr) (a b:Nat),Bin ⟨altS ws,altT 0 ws,p⟩ t a b→Bin ⟨altS ws,altT 0 ws,[]⟩ t a b:=fun t a b h=>by
    induction h with
    | name a=>exact .name a
    | bin x y a m b hx hy h3 h4 h5 h1 h2=>exact .bin x y a m b h1 h2 h3 h4 h5
   exact this _ _ _ hB
  have h:=Stk.tree 0 t 0 (2*ws.length+1) [] [] 0 (AtP.root ⟨altS ws,altT 0 ws,[]⟩ t) hB .nil
  rw [Nat.sub_zero,inTx_alt ws 0 0 rfl (fun j t h=>by simpa using h),List.append_nil] at h
  exact h
end
end Go.Proofs.YtegbdigfbklkaaaGreatDoor
