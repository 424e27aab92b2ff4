import Derived.Test.YtfmpphplbdojbaaGreatDoorQAA
namespace Go.Proofs.YtfmpphplbdojbaaGreatDoor
set_option linter.all false
set_option maxHeartbeats 40000000
set_option maxRecDepth 100000
section
def xA {α:Type} (N lo:Nat) (r:R α):Prop:=r≠.out/\∀ a m,r=.ok a m->lo<=m/\m<=N
theorem xA.bad {α:Type}{N lo k:Nat}:xA N lo (R.bad k:R α):=⟨Cm,fun _ _ h=>C4⟩
theorem xA.ok {α:Type}{N lo m:Nat}{a:α} (h:lo<=m) (k:m<=N):xA N lo (R.ok a m):=⟨Cm,fun _ _ e=>by cases e;exact⟨h,k⟩⟩
theorem xA.andThen {α β:Type}{N lo lo':Nat}{r:R α}{f:α->Nat->R β} (h:xA N lo r) (hf:∀ a m,lo<=m->m<=N->xA N lo' (f a m)):xA N lo' (r.andThen f):=by
 cases r with
 | ok a m=>obtain⟨h1,h2⟩:=h.2 a m rfl;exact hf a m h1 h2
 | bad k=>exact xA.bad
 | out=>exact absurd rfl h.1
theorem xA.ite {α:Type}{N lo:Nat}{c:Prop} [Decidable c] {a b:R α} (h1:c->xA N lo a) (h2:¬ c->xA N lo b):xA N lo (if c then a else b):=by
 by_cases h:c
 ·exact Bx
 ·exact Bz
theorem xA.low {α:Type}{N lo lo':Nat}{r:R α} (h:xA N lo r) (k:lo'<=lo):xA N lo' r:=⟨h.1,fun a m e=>⟨Ak k (h.2 a m e).1,(h.2 a m e).2⟩⟩
variable {E:Env}
theorem AG {n:Nat} (h:E.l.length<=n):E.word (n:Int)=[]:=by
 unfold Env.word;rw [if_neg Cf];simp only [Ae,Ap h]
theorem FG {n:Nat} (h:E.l.length<=n):E.kind (n:Int)=0:=by
 unfold Env.kind;rw [if_neg Cf];simp only [Ae,Ap h]
theorem xY {n:Nat} (h:E.l.length<=n) (x:UInt8) (w:List UInt8):E.is n (x::w)=false:=by
 unfold Env.is;rw [AG h];rfl
theorem pI {n:Nat} (h:E.l.length<=n):E.named (n:Int)=false:=by
 unfold Env.named;rw [FG h];rfl
theorem gA {n:Nat}{x:UInt8}{w:List UInt8} (h:E.is n (x::w)=true):n < E.l.length:=by
 apply Am;intro hn;rw [xY Cf] at h;cases h
theorem aF (x:UInt8) (w:List UInt8) (n:Nat):xA E.l.length (n+1) (want E (x::w) n):=by
 unfold want;exact xA.ite (fun h=>xA.ok (C' _) (gA h)) (fun _=>xA.bad)
theorem gI (n:Nat):xA E.l.length (n+1) (LC E n):=by
 unfold LC leaf;refine xA.ite (fun h=>xA.ok (C' _) ?_) (fun _=>xA.bad);apply Am;intro hn;rw [pI Cf] at h;cases h
theorem TE (n:Nat):xA E.l.length (n+1) (TH E n):=by
 unfold TH leaf;refine xA.ite (fun h=>xA.ok (C' _) ?_) (fun _=>xA.bad);apply Am;intro hn;rw [Env.quoted,FG Cf] at h;cases h
theorem YI {n:Nat} (h:n<=E.l.length):xA E.l.length n (zH E n):=by
 unfold zH;exact xA.ite (fun _=>(TE n).low Cf) (fun _=>xA.ok (C' _) h)
theorem SY {n:Nat} (x:UInt8) (w:List UInt8) (h:n<=E.l.length):n<=PB E (x::w) n/\PB E (x::w) n<=E.l.length:=by
 unfold PB;split
 ·rename_i hc;have:=gA hc;omega
 ·exact Cf
def rk:F->Nat
 | .file=>4|.fileImports _ _=>3|.fileDecls _ _ _=>2|.group=>1|.one _=>10|.fn=>1|.signature=>2|.params=>1|.tparams=>1|.names=>1|.namesMore _=>1|.union=>3|.unionMore _=>3
 | .typ=>2|.row _=>8|.members _ _=>1|.typeName=>1|.exprs=>8|.exprsMore _=>1|.types=>3|.typesMore _=>1|.expr=>7|.binary _=>6|.binMore _ _ _=>1|.unary=>5|.operand=>3|.primary=>4|.primMore _ _=>2
 | .dot _ _=>1|.call _ _=>1|.index _ _=>1|.indexMore _ _ _=>1|.slice _ _ _=>8|.elements=>1|.value=>8|.stmts=>12|.stmtsMore _=>11|.block=>1|.stmt=>10|.declared=>2|.started=>1|.returned=>1|.branch=>1
 | .simple=>9|.rest _ _=>1|.ifs=>1|.switches=>1|.clauses _ _=>1|.clausesMore _ _ _=>1|.cased _=>10|.selects=>1|.fors=>1|.overall _ _ _=>1
def NF:F->Bool
 | .group|.dot _ _|.call _ _|.index _ _|.declared|.started|.returned|.branch|.ifs|.switches|.selects|.fors=>true
 | _=>false
def iQ:F->Bool
 | .fileImports _ _|.fileDecls _ _ _|.namesMore _|.exprsMore _|.typesMore _|.binMore _ _ _|.primMore _ _|.stmts|.stmtsMore _|.rest _ _=>true
 | _=>false
def okF:F->Bool
 | .binary l=>decide (1<=l)
 | .binMore l _ _=>decide (1<=l)
 | _=>true
def pre (E:Env) (f:F) (n:Nat):Prop:=okF f=true/\if NF f then n < E.l.length else n<=E.l.length
def low (f:F) (n:Nat):Nat:=if iQ f then n else n+1
structure vG (E:Env) (S:AB) (k:Nat):Prop where
 t:∀ f n g,pre E f n->20*(E.l.length - n)+rk f < k->xA E.l.length (low f n) (S.t f n g)
 l:∀ a m b s o acc word n g,n<=E.l.length->20*(E.l.length - n)+11 < k->xA E.l.length n (S.l (a::m) (b::s) o acc word n g)
variable {S:AB}{k:Nat}
theorem eI (h:vG E S k) (c:UInt8) (p:List UInt8) (a:UInt8) (m:List UInt8) (b:UInt8) (s:List UInt8) (o:One) (n:Nat) (g:Bool) (hk:20*(E.l.length - n) < k+8) :
  xA E.l.length (n+1) (rows E S (c::p) (a::m) (b::s) o n g):=by
 unfold rows;refine xA.andThen (aF c p n) (fun _ m1 h1 h2=>?_);exact (h.l a m b s o [] (-1) m1 g h2 Cf).low h1
end
section
variable {E:Env}{S:AB}{k:Nat}
theorem oA {α β:Type}{c:Prop} [Decidable c] {a b:R α}{f:α->Nat->R β}:(if c then a else b).andThen f=if c then a.andThen f else b.andThen f:=by
 by_cases h:c
 ·rw [if_pos h,if_pos h]
 ·rw [if_neg h,if_neg h]
theorem mA {α β:Type}{a:α}{n:Nat}{f:α->Nat->R β}:(R.ok a n).andThen f=f a n:=rfl
theorem PA {α β:Type}{n:Nat}{f:α->Nat->R β}:(R.bad n).andThen f=R.bad n:=rfl
theorem zA {α β γ:Type}{r:R α}{f:α->Nat->R β}{g:β->Nat->R γ}:(r.andThen f).andThen g=r.andThen fun a n=>(f a n).andThen g:=by
 cases r <;> rfl
theorem bl:(∀ b:Bool,(b||false)=b)/\(∀ b:Bool,(false||b)=b)/\(∀ b:Bool,(b||true)=true)/\(∀ b:Bool,(true||b)=true)/\(∀ b:Bool,(b&&true)=b)/\(∀ b:Bool,(true&&b)=b)/\(∀ b:Bool,(b&&false)=false)/\(∀ b:Bool,(false&&b)=false)/\(!true)=false/\(!false)=true/\(false=true)=False:=by
 and_intros <;> simp
theorem bs:((∀ b:Bool,(b||false)=b)/\(∀ b:Bool,(false||b)=b)/\(∀ b:Bool,(b||true)=true)/\(∀ b:Bool,(true||b)=true)/\(∀ b:Bool,(b&&true)=b)/\(∀ b:Bool,(true&&b)=b)/\(∀ b:Bool,(b&&false)=false)/\(∀ b:Bool,(false&&b)=false)/\(!true)=false/\(!false)=true/\(false=true)=False) /\
  (∀ (α:Type) (_:Decidable True) (a b:α),(if True then a else b)=a)/\(∀ (α:Type) (_:Decidable False) (a b:α),(if False then a else b)=b)/\(∀ (α β:Type) (a:α) (n:Nat) (f:α->Nat->R β),(R.ok a n).andThen f=f a n)/\(∀ (α β:Type) (n:Nat) (f:α->Nat->R β),(R.bad n).andThen f=R.bad n) /\
  (∀ (α β:Type) (c:Prop) (_:Decidable c) (a b:R α) (f:α->Nat->R β),(if c then a else b).andThen f=if c then a.andThen f else b.andThen f)/\(∀ (α β γ:Type) (r:R α) (f:α->Nat->R β) (g:β->Nat->R γ),(r.andThen f).andThen g=r.andThen fun a n=>(f a n).andThen g) :=
 ⟨bl,fun _ _ _ _=>if_pos trivial,fun _ _ _ _=>if_neg id,fun _ _ _ _ _=>rfl,fun _ _ _ _=>rfl,fun _ _ _ _ _ _ _=>oA,fun _ _ _ _ _ _=>zA⟩
theorem jI {β:Type}{n N lo:Nat}{f:Tr->Nat->R β} (h:∀ t,E.named n=true->xA N lo (f t (n+1))):xA N lo ((LC E n).andThen f):=by
 unfold LC leaf;rw [oA];exact xA.ite (fun hc=>h _ hc) (fun _=>xA.bad)
theorem DA {f:F}{n:Nat} (hs:NF f=false) (h:n<=E.l.length) (ho:okF f=true:=by rfl):pre E f n:=by
 unfold pre;rw [hs,if_neg Ch];exact⟨ho,h⟩
theorem SF {f:F}{n:Nat} (h:n < E.l.length) (ho:okF f=true:=by rfl):pre E f n:=by
 refine⟨ho,?_⟩;split
 ·exact h
 ·exact Cf
theorem UC {f:F}{n m:Nat} (hs:iQ f=false) (h:low f n<=m):n+1<=m:=by
 unfold low at h;rw [hs,if_neg Ch] at h;exact h
theorem aJ {f:F}{n m:Nat} (h:low f n<=m):n<=m:=by
 unfold low at h;split at h <;> omega
theorem UF {f:F}{n lo:Nat} (h:lo<=n):lo<=low f n:=by
 unfold low;split <;> omega
theorem bI {f:F}{n:Nat} (hs:iQ f=false):low f n=n+1:=by
 unfold low;rw [hs,if_neg Ch]
theorem CS {n:Nat}{x:UInt8}{w:List UInt8}{b:Bool} (hb:b=true->n < E.l.length) (h:(b||E.is n (x::w))=true):n < E.l.length:=by
 rcases Bool.or_eq_true _ _ ▸ h with h|h
 ·exact hb h
 ·exact gA h
theorem vL {n:Nat}{x y:UInt8}{v w:List UInt8} (h:(E.is n (x::v)||E.is n (y::w))=true):n < E.l.length:=CS gA h
theorem EL {n:Nat}{x y z:UInt8}{u v w:List UInt8} (h:(E.is n (x::u)||E.is n (y::v)||E.is n (z::w))=true):n < E.l.length:=CS vL h
theorem zL {n:Nat}{x y z a:UInt8}{u v w p:List UInt8} (h:(E.is n (x::u)||E.is n (y::v)||E.is n (z::w)||E.is n (a::p))=true):n < E.l.length:=CS EL h
theorem vO {n:Nat}{x y z a b:UInt8}{u v w p q:List UInt8} (h:(E.is n (x::u)||E.is n (y::v)||E.is n (z::w)||E.is n (a::p)||E.is n (b::q))=true):n < E.l.length:=CS zL h
theorem lO {n:Nat}{x:UInt8}{w:List UInt8}{b:Bool} (h:(b&&E.is n (x::w))=true):n < E.l.length:=gA ((Bool.and_eq_true _ _ ▸ h).2)
theorem OJ {n:Nat}{x:UInt8}{w:List UInt8}{b:Bool} (h:(E.is n (x::w)&&b)=true):n < E.l.length:=gA ((Bool.and_eq_true _ _ ▸ h).1)
theorem cH {n:Nat} (h:E.literal n=true):n < E.l.length:=by
 apply Am;intro hn;rw [Env.literal,FG Cf] at h;cases h
theorem YG {n:Nat} (h:assigns (E.word n)=true):n < E.l.length:=by
 apply Am;intro hn;rw [AG Cf] at h;cases h
theorem zV {n least:Nat} (hl:1<=least) (h:¬ DD (E.word n) < least):n < E.l.length:=by
 apply Am;intro hn;rw [AG Cf] at h;have:DD []=0:=rfl;omega
theorem vR (x:UInt8) (w:List UInt8) (y:UInt8) (v:List UInt8) (n:Nat):xA E.l.length (n+1) (want E (x::w) (PB E (y::v) n)):=by
 refine (aF x w _).low ?_;unfold PB;split <;> omega
theorem dG {n:Nat} (h:E.named n=true):n < E.l.length:=by
 apply Am;intro hn;rw [pI Cf] at h;cases h
theorem gL (h:vG E S k) (n:Nat) (fr:Nat) (x:Tr) (acc:List Tr) (g:Bool) (hn:n<=E.l.length) (hk:20*(E.l.length - n)+1 < k+1):xA E.l.length (n+1) (fC E S fr x acc n g):=by
 unfold fC;refine xA.ite (fun hc=>?_) (fun _=>?_)
 ·have hx:=OJ hc;refine xA.andThen (h.t .expr (n+1) g (DA rfl Cf) C6) (fun y m h1 h2=>?_);replace h1:=UC rfl h1;exact (h.t (.indexMore fr x (acc++[y])) m g (DA rfl Cf) C6).low (UF Cf)
 ·refine xA.andThen (vR _ _ _ _ _) (fun _ m h1 h2=>xA.ok h1 h2)
theorem tH (h:vG E S k) (n:Nat) (fr:Nat) (first:Tr) (s:Option Tr) (tag:Tr) (g:Bool) (hn:n<=E.l.length) (hk:20*(E.l.length - n)+10 < k+1):xA E.l.length (n+1) (qB E S fr first s tag n g):=by
 unfold qB only
 try simp only [oA,mA,PA,zA]
 repeat' first
  | exact xA.bad
  | (refine xA.ok ?_ ?_ <;> omega)
  | rw [mA]
  | rw [PA]
  | exact (gI _).low Cf
  | exact (TE _).low Cf
  | (refine xA.ite (fun hc=>?_) (fun hc=>?_) <;> first|(have hx:=gA hc)|(have hx:=vL hc)|(have hx:=EL hc)|(have hx:=zL hc)|(have hx:=vO hc)|(have hx:=lO hc)|(have hx:=OJ hc)|(have hx:=cH hc)|(have hx:=YG hc)|skip)
  | (refine xA.andThen (aF _ _ _) (fun _ m h1 h2=>?_))
  | (refine jI (fun _ hc=>?_);have hx:=dG hc)
  | (refine xA.andThen (TE _) (fun _ m h1 h2=>?_))
  | (refine xA.andThen (YI Cf) (fun _ m h1 h2=>?_))
  | (refine xA.andThen (eI h _ _ _ _ _ _ _ _ _ Cf) (fun _ m h1 h2=>?_))
  | (refine xA.andThen (h.t _ _ _ Cy C6) (fun _ m h1 h2=>?_);(first|replace h1:=UC rfl h1|replace h1:=aJ h1))
  | (refine xA.low (h.t _ _ _ Cy C6) ?_;first|exact UF (Cf)|(rw [bI rfl];omega))
  | (split <;> first|(rename_i hc;have hx:=gA hc)|skip)
theorem aG (h:vG E S k) (n:Nat) (fr:Nat) (first:Tr) (g:Bool) (hn:n<=E.l.length) (hk:20*(E.l.length - n)+10 < k+1):xA E.l.length (n+1) (nB E S fr first n g):=by
 unfold nB qB only
 try simp only [oA,mA,PA,zA]
 repeat' first
  | exact xA.bad
  | (refine xA.ok ?_ ?_ <;> omega)
  | rw [mA]
  | rw [PA]
  | exact (gI _).low Cf
  | exact (TE _).low Cf
  | (refine xA.ite (fun hc=>?_) (fun hc=>?_) <;> first|(have hx:=gA hc)|(have hx:=vL hc)|(have hx:=EL hc)|(have hx:=zL hc)|(have hx:=vO hc)|(have hx:=lO hc)|(have hx:=OJ hc)|(have hx:=cH hc)|(have hx:=YG hc)|skip)
  | (refine xA.andThen (aF _ _ _) (fun _ m h1 h2=>?_))
  | (refine jI (fun _ hc=>?_);have hx:=dG hc)
  | (refine xA.andThen (TE _) (fun _ m h1 h2=>?_))
  | (refine xA.andThen (YI Cf) (fun _ m h1 h2=>?_))
  | (refine xA.andThen (eI h _ _ _ _ _ _ _ _ _ Cf) (fun _ m h1 h2=>?_))
  | (refine xA.andThen (h.t _ _ _ Cy C6) (fun _ m h1 h2=>?_);(first|replace h1:=UC rfl h1|replace h1:=aJ h1))
  | (refine xA.low (h.t _ _ _ Cy C6) ?_;first|exact UF (Cf)|(rw [bI rfl];omega))
  | (split <;> first|(rename_i hc;have hx:=gA hc)|skip)
theorem BM (h:vG E S k) (n:Nat) (g:Bool) (hn:n < E.l.length) (hk:20*(E.l.length - n)+1 < k+1):xA E.l.length (n+1) (qC E S n g):=by
 unfold qC;refine xA.ite (fun hc=>?_) (fun _=>xA.ite (fun hc=>?_) (fun _=>?_))
 ·have hx:=gA hc;exact (tH h (n+1) _ _ _ _ g Cf Cf).low Cf
 ·have hx:=gA hc;exact (aG h (n+2) _ _ g Cf Cf).low Cf
 ·refine xA.andThen (h.t _ _ _ (DA rfl Cf) C6) (fun s m h1 h2=>?_);replace h1:=UC rfl h1;refine xA.ite (fun hc=>?_) (fun _=>?_)
  ·have hx:=gA hc;exact (aG h (m+1) _ _ g Cf Cf).low Cf
  ·exact (tH h m _ _ _ _ g Cf Cf).low Cf
theorem oO (h:vG E S k) (n:Nat) (least fr:Nat) (x:Tr) (g:Bool) (hl:1<=least) (hn:n<=E.l.length) (hk:20*(E.l.length - n)+1 < k+1):xA E.l.length n (uD E S least fr x n g):=by
 unfold uD;refine xA.ite (fun _=>xA.ok (C' _) hn) (fun hc=>?_);have hx:=zV hl hc;refine xA.andThen (h.t (.binary (DD (E.word n)+1)) (n+1) g (DA rfl Cf (show decide (1<=DD (E.word n)+1)=true from decide_eq_true Cf)) C6) (fun y m h1 h2=>?_);replace h1:=UC rfl h1;exact (h.t (.binMore least fr _) m g (DA rfl Cf (show decide (1<=least)=true from decide_eq_true hl)) C6).low (UF Cf)
theorem OR (h:vG E S k) (a:UInt8) (mk:List UInt8) (b:UInt8) (s:List UInt8) (o:One) (acc:List Tr) (word:Int) (n:Nat) (g:Bool) (hn:n<=E.l.length) (hk:20*(E.l.length - n)+11 < k+1):xA E.l.length n (LF E S (a::mk) (b::s) o acc word n g):=by
 unfold LF;refine xA.ite (fun _=>xA.ok (C' _) hn) (fun _=>?_);have tail:∀ (p:Tr × Int) (m:Nat),n+1<=m->m<=E.l.length->xA E.l.length n (if E.is m (b::s) then S.l (a::mk) (b::s) o (acc++[p.1]) p.2 m g else (want E (a::mk) m).andThen fun _ n2=>S.l (a::mk) (b::s) o (acc++[p.1]) p.2 n2 g):=by
  intro p m h1 h2;refine xA.ite (fun _=>(h.l _ _ _ _ _ _ _ _ _ h2 Cf).low Cf) (fun _=>?_);refine xA.andThen (aF _ _ _) (fun _ m2 h3 h4=>?_);exact (h.l _ _ _ _ _ _ _ _ _ h4 Cf).low Cf
 by_cases ho:o=.call
 ·subst ho;simp only [];refine xA.andThen (lo:=n+1) ?_ (fun p m h1 h2=>tail p m h1 h2);refine xA.ite (fun _=>xA.bad) (fun _=>?_);refine xA.andThen (h.t .expr n g (DA rfl hn) C6) (fun x m h1 h2=>?_);replace h1:=UC rfl h1;exact xA.ite (fun hc=>xA.ok Cf (by have:=gA hc;omega)) (fun _=>xA.ok h1 h2)
 ·have e:∀ r1 r2:R (Tr × Int),(match o with|.call=>r1|_=>r2)=r2:=by intro r1 r2;cases o <;> first|rfl|exact absurd rfl ho
  have hone:xA E.l.length (n+1) ((S.t (.one o) n g).andThen fun x n1=>(R.ok (x,word) n1:R (Tr × Int))):=by
   refine xA.andThen (h.t (.one o) n g (DA rfl hn) C6) (fun x m h1 h2=>?_);exact xA.ok (UC rfl h1) h2
  refine xA.andThen (lo:=n+1) ?_ (fun p m h1 h2=>tail p m h1 h2);cases o <;> first|exact hone|exact absurd rfl ho
end
section
def arT (k:UInt8):Nat × Bool :=
 if k.toNat < 69 then [(0,false),(3,false),(0,true),(1,false),(0,true),(2,false),(3,false),(3,false),(5,false),(2,false),(1,true),(0,true),(0,true),(0,true),(0,true),(2,false),(1,true),(2,false),(1,true),(1,false),(0,true),(3,false),(2,false),(0,true),(2,false),(0,true),(0,false),(0,false),(1,false),(2,false),(2,false),(4,false),(2,false),(1,false),(2,false),(1,false),(1,false),(2,false),(2,false),(2,false),(2,false),(2,false),(1,false),(1,false),(2,false),(1,false),(1,false),(1,false),(1,false),(0,false),(1,false),(2,false),(1,false),(2,false),(1,false),(1,false),(1,false),(1,false),(1,false),(4,false),(3,false),(4,false),(2,false),(1,false),(2,false),(4,false),(3,false),(2,false),(1,false)].getD k.toNat (0,false) else (0,false)
def okN (k:UInt8) (n:Nat):Bool:=n==(arT k).1||((arT k).2&&decide ((arT k).1<=n))
mutual
def Sh:Tr->Prop
 | .mk k _ _ _ ks=>okN k ks.length=true/\Shs ks
def Shs:List Tr->Prop
 | []=>True
 | t::ts=>Sh t/\Shs ts
end
theorem Shs.append:∀ {a b:List Tr},Shs a->Shs b->Shs (a++b)
 | [],_,_,h=>h
 | _::_,_,⟨h1,h2⟩,h=>⟨h1,Shs.append h2 h⟩
theorem Shs.snoc {a:List Tr}{t:Tr} (h:Shs a) (ht:Sh t):Shs (a++[t]):=Shs.append h ⟨ht,trivial⟩
theorem Shs.mem:∀ {a:List Tr}{t:Tr},Shs a->t∈a->Sh t
 | _::_,_,⟨h1,h2⟩,h=>by
  rcases List.mem_cons.1 h with rfl|h
  ·exact h1
  ·exact Shs.mem h2 h
theorem Sh.kids {t:Tr} (h:Sh t):Shs t.kids:=Ic
theorem Sh.arity {t:Tr} (h:Sh t):okN t.kind t.kids.length=true:=by obtain⟨k,w,f,n,ks⟩:=t;exact h.1
theorem Sh.list {k:UInt8}{ks:List Tr}{n:Nat} (h:Shs ks) (hk:okN k ks.length=true):Sh (xC k ks n):=by
 cases ks with
 | nil=>exact⟨hk,trivial⟩
 | cons a b=>exact⟨hk,h⟩
theorem SK {k:UInt8} (h:arT k=(0,true)) (n:Nat):okN k n=true:=by unfold okN;rw [h];simp
theorem IF {k:UInt8} (h:arT k=(1,true)) {n:Nat} (hn:1<=n):okN k n=true:=by unfold okN;rw [h];simp;omega
def OkT (r:R Tr):Prop:=∀ a m,r=.ok a m->Sh a
def OkP (k:Nat) (r:R (List Tr × Int)):Prop:=∀ a m,r=.ok a m->Shs a.1/\k<=a.1.length
theorem OkT.bad {k:Nat}:OkT (.bad k):=fun _ _ h=>C4
theorem OkT.ok {a:Tr}{m:Nat} (h:Sh a):OkT (.ok a m):=fun _ _ e=>Hl
theorem OkP.bad {k j:Nat}:OkP j (.bad k):=fun _ _ h=>C4
theorem OkP.ok {a:List Tr × Int}{m j:Nat} (h:Shs a.1) (hl:j<=a.1.length):OkP j (.ok a m):=fun _ _ e=>by cases e;exact⟨h,hl⟩
theorem OkT.ite {c:Prop} [Decidable c] {a b:R Tr} (h1:OkT a) (h2:OkT b):OkT (if c then a else b):=Iz
theorem OkP.ite {c:Prop} [Decidable c] {j:Nat}{a b:R (List Tr × Int)} (h1:OkP j a) (h2:OkP j b):OkP j (if c then a else b):=Iz
theorem OkP.low {j i:Nat}{r:R (List Tr × Int)} (h:OkP j r) (hi:i<=j):OkP i r:=fun a m e=>⟨(h a m e).1,Ak hi (h a m e).2⟩
theorem OkT.sub {r:R Tr}{f:Tr->Nat->R Tr} (h:OkT r) (hf:∀ a m,Sh a->OkT (f a m)):OkT (r.andThen f):=by
 cases r with
 | ok a m=>exact hf a m (h a m rfl)
 | bad k=>exact OkT.bad
 | out=>exact fun _ _ h=>C4
theorem OkT.subP {r:R (List Tr × Int)}{j:Nat}{f:List Tr × Int->Nat->R Tr} (h:OkP j r) (hf:∀ a m,Shs a.1->j<=a.1.length->OkT (f a m)):OkT (r.andThen f):=by
 cases r with
 | ok a m=>exact hf a m (h a m rfl).1 (h a m rfl).2
 | bad k=>exact OkT.bad
 | out=>exact fun _ _ h=>C4
theorem OkT.want {E:Env}{w:List UInt8}{n:Nat}{f:Unit->Nat->R Tr} (hf:∀ m,OkT (f () m)):OkT ((want E w n).andThen f):=by
 unfold Go.Proofs.YtfmpphplbdojbaaGreatDoor.want;split
 ·exact hf _
 ·exact OkT.bad
theorem OkP.want {E:Env}{w:List UInt8}{n j:Nat}{f:Unit->Nat->R (List Tr × Int)} (hf:∀ m,m=n+1->OkP j (f () m)):OkP j ((want E w n).andThen f):=by
 unfold Go.Proofs.YtfmpphplbdojbaaGreatDoor.want;split
 ·exact hf _ rfl
 ·exact OkP.bad
theorem UK {k:UInt8}{ok:Bool}{n:Nat} (h:okN k 0=true):OkT (leaf k ok n):=by
 unfold leaf;exact OkT.ite (OkT.ok ⟨h,trivial⟩) OkT.bad
theorem FK {E:Env}{n:Nat}:OkT (LC E n):=UK Ch
theorem ML {E:Env}{n:Nat}:OkT (TH E n):=UK Ch
theorem RU {E:Env}{n:Nat}:OkT (zH E n):=by unfold zH;exact OkT.ite ML (OkT.ok ⟨Ct,trivial⟩)
def shF:F->Prop
 | .fileImports a b=>Sh a/\Shs b|.fileDecls a b c=>Sh a/\Sh b/\Shs c
 | .namesMore a=>Shs a/\a≠[]|.unionMore a=>Shs a|.members k _=>arT k=(0,true)
 | .exprsMore a=>Shs a|.typesMore a=>Shs a|.binMore _ _ x=>Sh x|.primMore _ x=>Sh x|.dot _ x=>Sh x|.call _ x=>Sh x|.index _ x=>Sh x
 | .indexMore _ x a=>Sh x/\Shs a|.slice _ x lo=>Sh x/\Sh lo|.stmtsMore a=>Shs a|.rest _ l=>Sh l|.clauses k _=>okN k 2=true|.clausesMore k _ a=>okN k 2=true/\Shs a|.overall _ _ l=>Sh l
 | _=>True
def more (E:Env) (n:Nat) (shut:List UInt8):Nat:=if E.is n shut then 0 else 1
structure SOk (E:Env) (S:AB):Prop where
 t:∀ f n g,shF f->OkT (S.t f n g)
 l:∀ mark shut o acc word n g,Shs acc->OkP (acc.length+more E n shut) (S.l mark shut o acc word n g)
variable {E:Env}{S:AB}
theorem TN (H:SOk E S) (a b c:List UInt8) (o:One) (n:Nat) (g:Bool):OkP (more E (n+1) c) (rows E S a b c o n g):=by
 unfold rows;exact OkP.want fun m hm=>(by subst hm;exact (H.l b c o [] (-1) _ g trivial).low Cm)
theorem fB {k:UInt8}{n:Nat} (h:okN k 0=true):Sh (vA k n):=⟨h,trivial⟩
theorem AW (H:SOk E S) {fr:Nat}{left:Tr} (h1:Sh left) (n:Nat) (g:Bool):OkT (WF E S fr left n g):=by
 unfold WF;refine OkT.ite (OkT.sub (H.t .exprs _ _ trivial) (fun a m ha=>OkT.ok ⟨Ct,h1,ha,trivial⟩)) ?_;split
 ·rename_i x hx;have hs:Sh x:=Shs.mem h1.kids Dj;refine OkT.ite (OkT.ok ⟨Ct,hs,trivial⟩) (OkT.ite (OkT.sub (H.t .expr _ _ trivial) (fun a m ha=>OkT.ok ⟨Ct,hs,ha,trivial⟩)) (OkT.ok ⟨Ct,hs,trivial⟩))
 ·exact OkT.bad
theorem RN {s:Tr} (h:Sh s) (n:Nat):OkT (only s n):=by
 unfold only;refine OkT.ite ?_ OkT.bad;split
 ·rename_i x r hx;exact OkT.ok (Shs.mem h.kids Dj)
 ·exact OkT.bad
theorem II (H:SOk E S) {fr:Nat}{a b:Tr} (h1:Sh a) (h2:Sh b) (n:Nat) (g:Bool):OkT (SD E S fr a b n g):=by
 unfold SD;simp only [oA,mA];refine OkT.sub (H.t .block _ _ trivial) (fun c m hc=>?_);refine OkT.ite (OkT.ite (OkT.sub (H.t .ifs _ _ trivial) (fun d m hd=>OkT.ok ⟨Ct,h1,h2,hc,hd,trivial⟩)) (OkT.sub (H.t .block _ _ trivial) (fun d m hd=>OkT.ok ⟨Ct,h1,h2,hc,hd,trivial⟩))) (OkT.ok ⟨Ct,h1,h2,hc,fB Ch,trivial⟩)
theorem oY (H:SOk E S) (n:Nat) (g:Bool):OkT (XI E S n g):=by
 unfold XI;refine OkT.ite (OkT.sub (H.t .expr _ _ trivial) (fun a m ha=>II H (fB Ch) ha _ _)) (OkT.sub (H.t .simple _ _ trivial) (fun s m hs=>OkT.ite (OkT.sub (H.t .expr _ _ trivial) (fun a m ha=>II H hs ha _ _)) (OkT.sub (RN hs _) (fun a m ha=>II H (fB Ch) ha _ _))))
theorem DV {s a b:Tr} (h:Sh s) (he:asked E s=some (a,b)):Sh a/\Sh b:=by
 unfold asked at he;split at he
 ·rename_i x hk hx;have hs:Sh x:=Shs.mem h.kids Dj;split at he
  ·rename_i y h33 hy;cases he;exact⟨fB (k:=0) (n:=s.fr) Ch,Shs.mem hs.kids Fq⟩
  ·cases he
 ·rename_i l r hk hx;have hl:Sh l:=Shs.mem h.kids Dj;have hr:Sh r:=Shs.mem h.kids Dj;split at he
  ·split at he
   ·rename_i c d hc hd;have h1:Sh c:=Shs.mem hl.kids I7;have h2:Sh d:=Shs.mem hr.kids I8;split at he
    ·split at he
     ·rename_i y hy;cases he;exact⟨h1,Shs.mem h2.kids Fq⟩
     ·cases he
    ·cases he
   ·cases he
  ·cases he
 ·cases he
theorem jF (H:SOk E S) {fr:Nat}{a t:Tr}{s:Option Tr} (h1:Sh a) (h2:Sh t) (h3:∀ x,s=some x->Sh x) (n:Nat) (g:Bool):OkT (qB E S fr a s t n g):=by
 unfold qB;cases s with
 | none=>exact OkT.sub (H.t (.clauses 62 1) _ _ (show okN 62 2=true from Ch)) (fun c m hc=>OkT.ok ⟨Ct,h1,h2,hc,trivial⟩)
 | some s =>
  have hs:=h3 s rfl
  show OkT (match asked E s with|some (name,x)=>_|none=>_)
  cases he:asked E s with
  | none=>exact OkT.sub (RN hs _) (fun t2 m ht=>OkT.sub (H.t (.clauses 62 1) _ _ (show okN 62 2=true from Ch)) (fun c m hc=>OkT.ok ⟨Ct,h1,ht,hc,trivial⟩))
  | some p =>
   obtain⟨x,y⟩:=p;obtain⟨hx,hy⟩:=DV hs he;exact OkT.sub (H.t (.clauses 62 2) _ _ (show okN 62 2=true from Ch)) (fun c m hc=>OkT.ok ⟨Ct,h1,hx,hy,hc,trivial⟩)
theorem pH (H:SOk E S) {fr:Nat}{a:Tr} (h1:Sh a) (n:Nat) (g:Bool):OkT (nB E S fr a n g):=by
 unfold nB;exact OkT.ite (jF H h1 (fB Ch) (fun _ h=>C4) _ _) (OkT.sub (H.t .simple _ _ trivial) (fun s m hs=>jF H h1 (fB Ch) (fun _ h=>Ga) _ _))
theorem aQ (H:SOk E S) (n:Nat) (g:Bool):OkT (qC E S n g):=by
 unfold qC;refine OkT.ite (jF H (fB Ch) (fB Ch) (fun _ h=>C4) _ _) (OkT.ite (pH H (fB Ch) _ _) (OkT.sub (H.t .simple _ _ trivial) (fun s m hs=>OkT.ite (pH H hs _ _) (jF H (fB Ch) (fB Ch) (fun _ h=>Ga) _ _))))
theorem AK (H:SOk E S) {fr:Nat}{a:Tr} (h1:Sh a) (n:Nat) (g:Bool):OkT (kD E S fr a n g):=by
 unfold kD;simp only [oA,mA];refine OkT.want (fun m=>?_);refine OkT.ite (OkT.want (fun m=>?_)) (OkT.sub (H.t .expr _ _ trivial) (fun c m hc=>OkT.want (fun m=>?_)))
 ·exact OkT.ite (OkT.sub (H.t .block _ _ trivial) (fun b m hb=>OkT.ok ⟨Ct,h1,fB Ch,fB Ch,hb,trivial⟩)) (OkT.sub (H.t .simple _ _ trivial) (fun d m hd=>OkT.sub (H.t .block _ _ trivial) (fun b m hb=>OkT.ok ⟨Ct,h1,fB Ch,hd,hb,trivial⟩)))
 ·exact OkT.ite (OkT.sub (H.t .block _ _ trivial) (fun b m hb=>OkT.ok ⟨Ct,h1,hc,fB Ch,hb,trivial⟩)) (OkT.sub (H.t .simple _ _ trivial) (fun d m hd=>OkT.sub (H.t .block _ _ trivial) (fun b m hb=>OkT.ok ⟨Ct,h1,hc,hd,hb,trivial⟩)))
theorem sX (H:SOk E S) (n:Nat) (g:Bool):OkT (fG E S n g):=by
 unfold fG;refine OkT.ite (OkT.sub (H.t .block _ _ trivial) (fun b m hb=>OkT.ok ⟨Ct,fB Ch,fB Ch,fB Ch,hb,trivial⟩)) ?_;refine OkT.ite (H.t (.overall _ _ _) _ _ (show Sh _ from fB Ch)) (OkT.ite (AK H (fB Ch) _ _) ?_);refine OkT.sub (H.t .exprs _ _ trivial) (fun l m hl=>?_);refine OkT.ite (H.t (.overall _ _ l) _ _ hl) (OkT.sub (H.t (.rest _ l) _ _ hl) (fun s m hs=>?_));exact OkT.ite (AK H hs _ _) (OkT.sub (RN hs _) (fun x m hx=>OkT.sub (H.t .block _ _ trivial) (fun b m hb=>OkT.ok ⟨Ct,fB Ch,hx,fB Ch,hb,trivial⟩)))
theorem QR (H:SOk E S) (n:Nat) (g:Bool):OkT (XC E S n g):=by
 unfold XC;split
 ·exact OkT.bad
 ·rename_i c;refine OkT.subP (TN H _ _ _ _ _ _) (fun a m ha hl=>?_);unfold more at hl;rw [if_neg c] at hl;exact OkT.want (fun m=>OkT.ok ⟨IF Ct hl,ha⟩)
theorem lV (H:SOk E S) (mark shut:List UInt8) (o:One) (acc:List Tr) (word:Int) (n:Nat) (g:Bool) (h:Shs acc):OkP (acc.length+more E n shut) (LF E S mark shut o acc word n g):=by
 unfold LF more;split
 ·exact OkP.ok h (C' _)
 have key:∀ r:R (Tr × Int),(∀ p m,r=.ok p m->Sh p.1)->OkP (acc.length+1) (r.andThen fun p n1=>if E.is n1 shut then S.l mark shut o (acc++[p.1]) p.2 n1 g else (want E mark n1).andThen fun _ n2=>S.l mark shut o (acc++[p.1]) p.2 n2 g):=by
  intro r hr;cases r with
  | ok p m =>
   have hp:=Shs.snoc h (hr p m rfl);have hl:∀ m,OkP (acc.length+1) (S.l mark shut o (acc++[p.1]) p.2 m g):=fun m=>(H.l _ _ _ _ _ _ _ hp).low Cm
   exact OkP.ite (hl _) (OkP.want fun m _=>hl m)
  | bad k=>exact OkP.bad
  | out=>exact fun _ _ h=>C4
 refine key _ ?_;have sub:∀ (r:R Tr) (f:Tr->Nat->R (Tr × Int)),OkT r->(∀ a m,Sh a->∀ p m',f a m=.ok p m'->Sh p.1)->∀ p m,r.andThen f=.ok p m->Sh p.1:=by
  intro r f hr hf p m e;cases r with
  | ok a m1=>exact hf a m1 (hr a m1 rfl) p m e
  | bad k=>cases e
  | out=>cases e
 have plain:∀ o':One,∀ p m,((S.t (.one o') n g).andThen fun x n1=>(.ok (x,word) n1:R (Tr × Int)))=.ok p m->Sh p.1 :=
  fun o'=>sub _ _ (H.t _ _ _ trivial) (fun a m ha p m' e=>by cases e;exact ha)
 cases o
 case call =>
  intro p m e;have e':(if 0<=word then (R.bad n:R (Tr × Int)) else (S.t .expr n g).andThen fun x n1=>if E.is n1 [46,46,46] then .ok (x,(n1:Int)) (n1+1) else .ok (x,word) n1)=.ok p m:=e;split at e'
  ·cases e'
  ·refine sub _ _ (H.t .expr n g trivial) (fun a m ha p m' e=>?_) p m e';split at e <;> (cases e;exact ha)
 all_goals exact plain _
theorem CX (H:SOk E S):SOk E (step E S):=by
 refine⟨fun f n g hf=>?_,fun mark shut o acc word n g h=>lV H mark shut o acc word n g h⟩
 show OkT (DF E S f n g)
 cases f
 case rest=>exact AW H hf n g
 case ifs=>exact oY H n g
 case switches=>exact aQ H n g
 case fors=>exact sX H n g
 case tparams=>exact QR H n g
 case exprs=>exact OkT.sub (H.t .expr n g trivial) (fun x m hx=>H.t (.exprsMore [x]) _ _ ⟨hx,trivial⟩)
 case types=>exact OkT.sub (H.t .typ n g trivial) (fun x m hx=>H.t (.typesMore [x]) _ _ ⟨hx,trivial⟩)
 case binary=>exact OkT.sub (H.t .unary n g trivial) (fun x m hx=>H.t (.binMore _ n x) _ _ hx)
 case primary=>exact OkT.sub (H.t .operand n g trivial) (fun x m hx=>H.t (.primMore n x) _ _ hx)
 case simple=>exact OkT.sub (H.t .exprs n g trivial) (fun x m hx=>H.t (.rest n x) _ _ hx)
 case stmts=>exact H.t (.stmtsMore []) n false trivial
 case one o =>
  cases o
  all_goals (
   (try simp only [shF] at hf)
   (first|obtain⟨h1,h2,h3⟩:=hf|obtain⟨h1,h2⟩:=hf|skip)
   simp only [DF,EF,lB,eC,CE,uB,LB,IB,rC,fnB,NB,XD,NE,RD,OD,XB,jB,tI,NJ,CB,nC,WE,kG,ZB,cC,uD,FE,PC,DC,SJ,bG,sE,fC,UE,OB,QC,QE,dC,EE,ZC,lC,aD,oC,UD,dD,cD,rD,mB,PE,xE,mC,nH,oA,mA,PA,zA]
   repeat' (first|exact OkT.bad|refine OkT.ite ?_ ?_|refine OkT.want (fun m=>?_)|refine OkT.sub FK (fun a m ha=>?_)|refine OkT.sub ML (fun a m ha=>?_)|refine OkT.sub RU (fun a m ha=>?_)|refine OkT.subP (TN H _ _ _ _ _ _) (fun a m ha _=>?_)|refine OkT.sub (H.t _ _ _ ?_) (fun a m ha=>?_)|exact FK|exact ML|exact UK (Ch)|refine H.t _ _ _ ?_|refine OkT.ok ?_)
   all_goals (try simp only [shF])
   all_goals first|trivial|assumption|exact⟨Db,Db⟩|exact⟨Db,Db,Db⟩|skip
   all_goals (repeat' (first|assumption|exact trivial|exact Shs.snoc ‹_› ‹_›|exact Shs.snoc ‹_› (fB Ch)|exact fB (Ch)|exact Sh.list ‹_› (SK Dz _)|exact Sh.list ‹_› (IF Ct (List.length_pos_iff.2 ‹_›))|exact Sh.list (Shs.snoc ‹_› ‹_›) (IF Ct Cm)|exact SK Ct _|(show okN _ _=true;first|assumption|rfl|decide)|(show _++_≠[];simp)|exact List.cons_ne_nil _ _|exact Shs.snoc ‹_› ⟨Dz,Db,trivial⟩|exact Shs.snoc ‹_› ⟨Dz,Ht,Db,trivial⟩|exact Sh.list (Shs.snoc ‹_› ⟨Ct,Db,trivial⟩) (IF Ct Cm)|(split <;> rfl)|refine⟨?_,?_⟩)))
 all_goals (
  (try simp only [shF] at hf)
  (first|obtain⟨h1,h2,h3⟩:=hf|obtain⟨h1,h2⟩:=hf|skip)
  simp only [DF,EF,lB,eC,CE,uB,LB,IB,rC,fnB,NB,XD,NE,RD,OD,XB,jB,tI,NJ,CB,nC,WE,kG,ZB,cC,uD,FE,PC,DC,SJ,bG,sE,fC,UE,OB,QC,QE,dC,EE,ZC,lC,aD,oC,UD,dD,cD,rD,mB,PE,xE,mC,nH,oA,mA,PA,zA]
  repeat' (first|exact OkT.bad|refine OkT.ite ?_ ?_|refine OkT.want (fun m=>?_)|refine OkT.sub FK (fun a m ha=>?_)|refine OkT.sub ML (fun a m ha=>?_)|refine OkT.sub RU (fun a m ha=>?_)|refine OkT.subP (TN H _ _ _ _ _ _) (fun a m ha _=>?_)|refine OkT.sub (H.t _ _ _ ?_) (fun a m ha=>?_)|exact FK|exact ML|exact UK (Ch)|refine H.t _ _ _ ?_|refine OkT.ok ?_)
  all_goals (try simp only [shF])
  all_goals first|trivial|assumption|exact⟨Db,Db⟩|exact⟨Db,Db,Db⟩|skip
  all_goals (repeat' (first|assumption|exact trivial|exact Shs.snoc ‹_› ‹_›|exact Shs.snoc ‹_› (fB Ch)|exact fB (Ch)|exact Sh.list ‹_› (SK Dz _)|exact Sh.list ‹_› (IF Ct (List.length_pos_iff.2 ‹_›))|exact Sh.list (Shs.snoc ‹_› ‹_›) (IF Ct Cm)|exact SK Ct _|(show okN _ _=true;first|assumption|rfl|decide)|(show _++_≠[];simp)|exact List.cons_ne_nil _ _|exact Shs.snoc ‹_› ⟨Dz,Db,trivial⟩|exact Shs.snoc ‹_› ⟨Dz,Ht,Db,trivial⟩|exact Sh.list (Shs.snoc ‹_› ⟨Ct,Db,trivial⟩) (IF Ct Cm)|(split <;> rfl)|refine⟨?_,?_⟩)))
theorem ZF (E:Env):∀ k,SOk E (kA E k)
 | 0=>⟨fun _ _ _ _=>fun _ _ h=>C4,fun _ _ _ _ _ _ _ _=>fun _ _ h=>C4⟩
 | k+1=>CX (ZF E k)
end
