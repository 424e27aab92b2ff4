import Derived.Test.YtjdllofmhglmiaaGreatDoorQAA
namespace Go.Proofs.YtjdllofmhglmiaaGreatDoor
set_option linter.all false
set_option maxHeartbeats 40000000
set_option maxRecDepth 100000
section
theorem bQ (E:Env) (S:AB) (k:Nat) (h:vG E S k):vG E (step E S) (k+1):=by
 refine⟨fun f n g hp hk=>?_,fun a m b s o acc word n g hn hk=>OR h a m b s o acc word n g hn hk⟩;obtain⟨ho,hp⟩:=hp
 show xA E.l.length (low f n) (DF E S f n g)
 cases f with
 | one o =>
  cases o with
  | expr=>exact h.t .expr n g (DA rfl hp) De
  | typ=>exact h.t .typ n g (DA rfl hp) De
  | call=>exact xA.bad
  | _ =>
   simp only [rk] at hk;simp only [NF,Be,Bf,Ba] at hp;simp only [low,iQ,Be,Bf,Ba];simp only [DF,EF,lB,fnB,NB,CE,uB,LB,IB,XD,XC,RD,OD,XB,jB,NJ,CB,nC,WE,kG,ZB,cC,SJ,bG,sE,UE,OB,QC,QE,EE,lC,aD,oC,UD,rD,mB,PE,dD,cD,dC,eC,tI,NE,rC,PC,FE,DC,WF,ZC,XI,fG,wrapT,mC,nH,after,leaf,only,SD,kD,oA,mA,PA,zA]
   repeat' first|exact xA.bad|(refine xA.ok ?_ ?_ <;> omega)|rw [mA]|rw [PA]|exact (gI _).low (Cs)|exact (TE _).low (Cs)|(refine xA.ite (fun hc=>?_) (fun hc=>?_) <;> first|(have hx:=gA hc)|(have hx:=vL hc)|(have hx:=EL hc)|(have hx:=zL hc)|(have hx:=vO hc)|(have hx:=lO hc)|(have hx:=OJ hc)|(have hx:=cH hc)|(have hx:=YG hc)|skip)|(refine xA.andThen (aF _ _ _) (fun _ m h1 h2=>?_))|(refine jI (fun _ hc=>?_);have hx:=dG hc)|(refine xA.andThen (TE _) (fun _ m h1 h2=>?_))|(refine xA.andThen (YI Cs) (fun _ m h1 h2=>?_))|(refine xA.andThen (eI h _ _ _ _ _ _ _ _ _ Cs) (fun _ m h1 h2=>?_))|(refine xA.andThen (h.t _ _ _ Dg Dk) (fun _ m h1 h2=>?_);(first|replace h1:=UC rfl h1|replace h1:=aJ h1))|(refine xA.low (h.t _ _ _ Dg Dk) ?_;first|exact UF (Cs)|(rw [bI rfl];omega))|(split <;> first|(rename_i hc;have hx:=gA hc)|skip)
 | exprs =>
  refine xA.andThen (h.t .expr n g (DA rfl hp) De) (fun x m h1 h2=>?_);have h1:=UC rfl h1;exact (h.t (.exprsMore [x]) m g (DA rfl h2) De).low (UF h1)
 | types =>
  refine xA.andThen (h.t .typ n g (DA rfl hp) De) (fun x m h1 h2=>?_);have h1:=UC rfl h1;exact (h.t (.typesMore [x]) m g (DA rfl h2) De).low (UF h1)
 | expr=>exact h.t (.binary 1) n g (DA rfl hp) De
 | binary least =>
  refine xA.andThen (h.t .unary n g (DA rfl hp) De) (fun x m h1 h2=>?_);have h1:=UC rfl h1;exact (h.t (.binMore least n x) m g (DA rfl h2 ho) De).low (UF h1)
 | binMore least fr x=>exact oO h n least fr x g (of_decide_eq_true ho) hp hk
 | primary =>
  refine xA.andThen (h.t .operand n g (DA rfl hp) De) (fun x m h1 h2=>?_);have h1:=UC rfl h1;exact (h.t (.primMore n x) m g (DA rfl h2) De).low (UF h1)
 | indexMore fr x acc=>exact gL h n fr x acc g hp hk
 | stmts=>exact h.t (.stmtsMore []) n false (DA rfl hp) De
 | simple =>
  refine xA.andThen (h.t .exprs n g (DA rfl hp) De) (fun x m h1 h2=>?_);have h1:=UC rfl h1;exact (h.t (.rest n x) m g (DA rfl h2) De).low (UF h1)
 | switches=>exact BM h n g hp hk
 | _ =>
   simp only [rk] at hk;simp only [NF,Be,Bf,Ba] at hp;simp only [low,iQ,Be,Bf,Ba];simp only [DF,EF,lB,fnB,NB,CE,uB,LB,IB,XD,XC,RD,OD,XB,jB,NJ,CB,nC,WE,kG,ZB,cC,SJ,bG,sE,UE,OB,QC,QE,EE,lC,aD,oC,UD,rD,mB,PE,dD,cD,dC,eC,tI,NE,rC,PC,FE,DC,WF,ZC,XI,fG,wrapT,mC,nH,after,leaf,only,SD,kD,oA,mA,PA,zA]
   repeat' first|exact xA.bad|(refine xA.ok ?_ ?_ <;> omega)|rw [mA]|rw [PA]|exact (gI _).low (Cs)|exact (TE _).low (Cs)|(refine xA.ite (fun hc=>?_) (fun hc=>?_) <;> first|(have hx:=gA hc)|(have hx:=vL hc)|(have hx:=EL hc)|(have hx:=zL hc)|(have hx:=vO hc)|(have hx:=lO hc)|(have hx:=OJ hc)|(have hx:=cH hc)|(have hx:=YG hc)|skip)|(refine xA.andThen (aF _ _ _) (fun _ m h1 h2=>?_))|(refine jI (fun _ hc=>?_);have hx:=dG hc)|(refine xA.andThen (TE _) (fun _ m h1 h2=>?_))|(refine xA.andThen (YI Cs) (fun _ m h1 h2=>?_))|(refine xA.andThen (eI h _ _ _ _ _ _ _ _ _ Cs) (fun _ m h1 h2=>?_))|(refine xA.andThen (h.t _ _ _ Dg Dk) (fun _ m h1 h2=>?_);(first|replace h1:=UC rfl h1|replace h1:=aJ h1))|(refine xA.low (h.t _ _ _ Dg Dk) ?_;first|exact UF (Cs)|(rw [bI rfl];omega))|(split <;> first|(rename_i hc;have hx:=gA hc)|skip)
theorem NV (E:Env):∀ k,vG E (spec E k) k
 | 0=>⟨fun _ _ _ _ h=>Cs,fun _ _ _ _ _ _ _ _ _ _ h=>Cs⟩
 | k+1=>bQ E (spec E k) k (NV E k)
theorem ends (E:Env) (f:F) (hf:pre E f 0) (g:Bool):(spec E (20*E.l.length+20)).t f 0 g≠.out :=
 ((NV E (20*E.l.length+20)).t f 0 g hf (by have:rk f<=12:=by { cases f <;> exact Nat.le_of_ble_eq_true rfl };omega)).1
end
section
mutual
def UB:Tr->Prop
 | .mk k wd f t ks=>k<=68/\f<=t/\(wd=-1∨((f:Int)<=wd/\wd < (t:Int)))/\iA wd f t ks
def iA (wd:Int):Nat->Nat->List Tr->Prop
 | lo,hi,[]=>lo<=hi
 | lo,hi,x::xs=>lo<=x.fr/\¬ ((x.fr:Int)<=wd/\wd < (x.to:Int))/\UB x/\iA wd x.to hi xs
end
theorem UB.le {t:Tr} (h:UB t):t.fr<=t.to:=by obtain⟨k,w,f,n,ks⟩:=t;exact h.2.1
theorem iA.le {wd:Int}:∀ {ks:List Tr}{lo hi:Nat},iA wd lo hi ks->lo<=hi
 | [],_,_,h=>h
 | x::xs,lo,hi,h=>by have h1:=h.1;have h2:=h.2.2.1.le;have h3:=iA.le h.2.2.2;omega
theorem iA.snoc {wd:Int}{x:Tr}{hi':Nat}:∀ {ks:List Tr}{lo hi:Nat},iA wd lo hi ks->hi<=x.fr->x.to<=hi'->¬ ((x.fr:Int)<=wd/\wd < (x.to:Int))->UB x->iA wd lo hi' (ks++[x])
 | [],lo,hi,h,h1,h2,h3,h4=>⟨An h h1,h3,h4,h2⟩
 | y::ys,lo,hi,h,h1,h2,h3,h4=>⟨h.1,h.2.1,h.2.2.1,iA.snoc h.2.2.2 h1 h2 h3 h4⟩
theorem iA.low {wd:Int}{lo':Nat}:∀ {ks:List Tr}{lo hi:Nat},iA wd lo hi ks->lo'<=lo->iA wd lo' hi ks
 | [],lo,hi,h,h1=>An h1 h
 | y::ys,lo,hi,h,h1=>⟨An h1 h.1,h.2.1,h.2.2.1,h.2.2.2⟩
theorem iA.last {wd:Int}:∀ {ks:List Tr}{lo hi:Nat},iA wd lo hi ks->∀ h:ks≠[],iA wd lo (ks.getLast h).to ks/\(ks.getLast h).to<=hi
 | [],_,_,_,h=>absurd rfl h
 | [x],lo,hi,h,_=>⟨⟨h.1,h.2.1,h.2.2.1,C' _⟩,h.2.2.2⟩
 | x::y::ys,lo,hi,h,_=>by
  have k:=iA.last h.2.2.2 (List.cons_ne_nil y ys);exact⟨⟨h.1,h.2.1,h.2.2.1,k.1⟩,k.2⟩
theorem iA.word {wd:Int}{k:Nat}:∀ {ks:List Tr}{lo hi:Nat},iA (-1) lo hi ks->(wd < (lo:Int)∨(hi:Int)<=wd)->iA wd lo hi ks
 | [],_,_,h,_=>h
 | x::xs,lo,hi,h,hw=>by
  have h1:=h.1;have h2:=h.2.2.1.le;have h3:=iA.le h.2.2.2;exact⟨h.1,Cs,h.2.2.1,iA.word (k:=k) h.2.2.2 Cs⟩
def TT (lo m:Nat) (a:Tr):Prop:=UB a/\lo<=a.fr/\a.fr<=a.to/\a.to<=m
theorem TT.low {lo lo' m:Nat}{a:Tr} (h:TT lo m a) (k:lo'<=lo):TT lo' m a:=⟨h.1,An k h.2.1,h.2.2.1,h.2.2.2⟩
def TL (lo m:Nat) (a:List Tr × Int):Prop:=iA (-1) lo m a.1/\(a.2=-1∨∃ w:Nat,a.2=(w:Int)/\a.1≠[]/\iA (-1) lo w a.1/\w < m)
def OkW (n lo:Nat) (r:R Tr):Prop:=∀ a m,r=.ok a m->n<=m/\TT lo m a
def OkL (n lo k:Nat) (r:R (List Tr × Int)):Prop:=∀ a m,r=.ok a m->n<=m/\TL lo m a/\k<=a.1.length
theorem OkW.bad {n lo k:Nat}:OkW n lo (.bad k):=fun _ _ h=>Do
theorem OkW.ok {n lo m:Nat}{a:Tr} (h:n<=m) (h2:TT lo m a):OkW n lo (.ok a m):=fun _ _ e=>by cases e;exact⟨h,h2⟩
theorem OkW.ite {n lo:Nat}{c:Prop} [Decidable c] {a b:R Tr} (h1:c->OkW n lo a) (h2:¬ c->OkW n lo b):OkW n lo (if c then a else b):=by
 exact zb4
theorem OkW.up {n n' lo:Nat}{r:R Tr} (h:OkW n' lo r) (k:n<=n'):OkW n lo r:=fun a m e=>⟨An k (h a m e).1,(h a m e).2⟩
theorem OkW.sub {n lo n' lo':Nat}{r:R Tr}{f:Tr->Nat->R Tr} (h:OkW n' lo' r) (hf:∀ a m,n'<=m->TT lo' m a->OkW n lo (f a m)):OkW n lo (r.andThen f):=by
 cases r with
 | ok a m=>exact hf a m (h a m rfl).1 (h a m rfl).2
 | bad k=>exact OkW.bad
 | out=>exact fun _ _ h=>Do
theorem OkW.subL {n lo n' lo' k:Nat}{r:R (List Tr × Int)}{f:List Tr × Int->Nat->R Tr} (h:OkL n' lo' k r) (hf:∀ a m,n'<=m->TL lo' m a->k<=a.1.length->OkW n lo (f a m)):OkW n lo (r.andThen f):=by
 cases r with
 | ok a m=>exact hf a m (h a m rfl).1 (h a m rfl).2.1 (h a m rfl).2.2
 | bad k=>exact OkW.bad
 | out=>exact fun _ _ h=>Do
theorem OkW.want {E:Env}{w:List UInt8}{n lo n':Nat}{f:Unit->Nat->R Tr} (hf:∀ m,m=n'+1->OkW n lo (f () m)):OkW n lo ((want E w n').andThen f):=by
 unfold Go.Proofs.YtjdllofmhglmiaaGreatDoor.want;split
 ·exact hf _ rfl
 ·exact OkW.bad
theorem OkL.want {E:Env}{w:List UInt8}{n lo n' k:Nat}{f:Unit->Nat->R (List Tr × Int)} (hf:∀ m,m=n'+1->OkL n lo k (f () m)):OkL n lo k ((want E w n').andThen f):=by
 exact zdc
def ttF (lo n:Nat):F->Prop
 | .file=>lo=0
 | .fileImports a b=>lo=0/\UB a/\iA (-1) a.to n b
 | .fileDecls a b c=>lo=0/\UB a/\UB b/\a.to<=b.fr/\iA (-1) b.to n c
 | .namesMore a|.unionMore a|.exprsMore a|.typesMore a|.stmtsMore a=>iA (-1) lo n a
 | .members k _=>k<=68/\lo<=n
 | .binMore _ fr x|.primMore fr x|.dot fr x|.call fr x|.index fr x|.rest fr x=>lo<=fr/\UB x/\fr<=x.fr/\x.to<=n
 | .indexMore fr x a=>lo<=fr/\UB x/\fr<=x.fr/\iA (-1) x.to n a
 | .slice fr x y=>lo<=fr/\UB x/\fr<=x.fr/\UB y/\x.to<=y.fr/\y.to<=n
 | .row fr=>lo<=fr/\fr<=n
 | .clauses k _=>k<=68/\lo<=n|.clausesMore k _ a=>k<=68/\iA (-1) lo n a
 | .overall fr wd x=>lo<=fr/\UB x/\fr<=x.fr/\x.to<=n/\(wd=-1∨((x.to:Int)<=wd/\wd < (n:Int)))
 | _=>lo<=n
structure TOk (S:AB):Prop where
 t:∀ f n g lo,ttF lo n f->OkW n lo (S.t f n g)
 l:∀ mark shut o acc word n g lo,TL lo n (acc,word)->(o≠.call->word=-1)->OkL n lo acc.length (S.l mark shut o acc word n g)
theorem PF (E:Env) (w:List UInt8) (n:Nat):n<=after E w n/\after E w n<=n+1:=by unfold after;split <;> omega
variable {E:Env}{S:AB}
theorem TOk.p (H:TOk S) (f:F) (n:Nat) (g:Bool) (hf:ttF n n f):OkW n n (S.t f n g):=H.t f n g n hf
theorem OkW.lo {n lo:Nat}{r:R Tr} (h:OkW n n r) (k:lo<=n):OkW n lo r:=fun a m e=>⟨(h a m e).1,(h a m e).2.low k⟩
end
