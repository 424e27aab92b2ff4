import Derived.Test.YtfmpphplbdojbaaGreatDoorQAB
namespace Go.Proofs.YtfmpphplbdojbaaGreatDoor
set_option linter.all false
set_option maxHeartbeats 40000000
set_option maxRecDepth 100000
section
mutual
def UB:Tr->Prop
 | .mk k wd f t ks=>k<=68/\f<=t/\(wd=-1∨((f:Int)<=wd/\wd < (t:Int)))/\iA wd f t ks
def iA (wd:Int):Nat->Nat->List Tr->Prop
 | lo,hi,[]=>lo<=hi
 | lo,hi,x::xs=>lo<=x.fr/\¬ ((x.fr:Int)<=wd/\wd < (x.to:Int))/\UB x/\iA wd x.to hi xs
end
theorem UB.le {t:Tr} (h:UB t):t.fr<=t.to:=by obtain⟨k,w,f,n,ks⟩:=t;exact h.2.1
theorem iA.le {wd:Int}:∀ {ks:List Tr}{lo hi:Nat},iA wd lo hi ks->lo<=hi
 | [],_,_,h=>h
 | x::xs,lo,hi,h=>by have h1:=h.1;have h2:=h.2.2.1.le;have h3:=iA.le h.2.2.2;omega
theorem iA.snoc {wd:Int}{x:Tr}{hi':Nat}:∀ {ks:List Tr}{lo hi:Nat},iA wd lo hi ks->hi<=x.fr->x.to<=hi'->¬ ((x.fr:Int)<=wd/\wd < (x.to:Int))->UB x->iA wd lo hi' (ks++[x])
 | [],lo,hi,h,h1,h2,h3,h4=>⟨Ak h h1,h3,h4,h2⟩
 | y::ys,lo,hi,h,h1,h2,h3,h4=>⟨h.1,h.2.1,h.2.2.1,iA.snoc h.2.2.2 h1 h2 h3 h4⟩
theorem iA.wide {wd:Int}{hi':Nat}:∀ {ks:List Tr}{lo hi:Nat},iA wd lo hi ks->hi<=hi'->iA wd lo hi' ks
 | [],lo,hi,h,h1=>Ak h h1
 | y::ys,lo,hi,h,h1=>⟨h.1,h.2.1,h.2.2.1,iA.wide h.2.2.2 h1⟩
theorem iA.low {wd:Int}{lo':Nat}:∀ {ks:List Tr}{lo hi:Nat},iA wd lo hi ks->lo'<=lo->iA wd lo' hi ks
 | [],lo,hi,h,h1=>Ak h1 h
 | y::ys,lo,hi,h,h1=>⟨Ak h1 h.1,h.2.1,h.2.2.1,h.2.2.2⟩
theorem iA.last {wd:Int}:∀ {ks:List Tr}{lo hi:Nat},iA wd lo hi ks->∀ h:ks≠[],iA wd lo (ks.getLast h).to ks/\(ks.getLast h).to<=hi
 | [],_,_,_,h=>absurd rfl h
 | [x],lo,hi,h,_=>⟨⟨h.1,h.2.1,h.2.2.1,C' _⟩,h.2.2.2⟩
 | x::y::ys,lo,hi,h,_=>by
  have k:=iA.last h.2.2.2 (List.cons_ne_nil y ys);exact⟨⟨h.1,h.2.1,h.2.2.1,k.1⟩,k.2⟩
theorem iA.word {wd:Int}{k:Nat}:∀ {ks:List Tr}{lo hi:Nat},iA (-1) lo hi ks->(wd < (lo:Int)∨(hi:Int)<=wd)->iA wd lo hi ks
 | [],_,_,h,_=>h
 | x::xs,lo,hi,h,hw=>by
  have h1:=h.1;have h2:=h.2.2.1.le;have h3:=iA.le h.2.2.2;exact⟨h.1,Cf,h.2.2.1,iA.word (k:=k) h.2.2.2 Cf⟩
def TT (lo m:Nat) (a:Tr):Prop:=UB a/\lo<=a.fr/\a.fr<=a.to/\a.to<=m
theorem GC {k:UInt8}{ks:List Tr}{lo hi n:Nat} (hk:k<=68) (h:iA (-1) lo hi ks) (h1:lo<=n) (h2:n<=hi):TT lo hi (xC k ks n):=by
 cases ks with
 | nil=>exact⟨⟨hk,C' _,.inl rfl,C' _⟩,h1,C' _,h2⟩
 | cons x xs =>
  have hl:=iA.last h (List.cons_ne_nil x xs);have h3:iA (-1) x.fr ((x::xs).getLast (List.cons_ne_nil x xs)).to (x::xs):=⟨C' _,hl.1.2.1,hl.1.2.2.1,hl.1.2.2.2⟩;exact⟨⟨hk,h3.le,.inl rfl,h3⟩,h.1,h3.le,hl.2⟩
theorem GW {k:UInt8}{ks:List Tr}{lo hi n:Nat} (hk:k<=68) (h:iA (-1) lo hi ks) (hne:ks≠[]):TT lo hi (xC k ks n):=by
 cases ks with
 | nil=>exact absurd rfl hne
 | cons x xs =>
  have hl:=iA.last h (List.cons_ne_nil x xs);have h3:iA (-1) x.fr ((x::xs).getLast (List.cons_ne_nil x xs)).to (x::xs):=⟨C' _,hl.1.2.1,hl.1.2.2.1,hl.1.2.2.2⟩;exact⟨⟨hk,h3.le,.inl rfl,h3⟩,h.1,h3.le,hl.2⟩
theorem rB {k:UInt8}{n lo hi:Nat} (hk:k<=68) (h1:lo<=n) (h2:n<=hi):TT lo hi (vA k n):=⟨⟨hk,C' _,.inl rfl,C' _⟩,h1,C' _,h2⟩
theorem TT.wide {lo m m':Nat}{a:Tr} (h:TT lo m a) (k:m<=m'):TT lo m' a:=⟨h.1,h.2.1,h.2.2.1,Ak h.2.2.2 k⟩
theorem TT.low {lo lo' m:Nat}{a:Tr} (h:TT lo m a) (k:lo'<=lo):TT lo' m a:=⟨h.1,Ak k h.2.1,h.2.2.1,h.2.2.2⟩
def TL (lo m:Nat) (a:List Tr × Int):Prop:=iA (-1) lo m a.1/\(a.2=-1∨∃ w:Nat,a.2=(w:Int)/\a.1≠[]/\iA (-1) lo w a.1/\w < m)
def OkW (n lo:Nat) (r:R Tr):Prop:=∀ a m,r=.ok a m->n<=m/\TT lo m a
def OkL (n lo k:Nat) (r:R (List Tr × Int)):Prop:=∀ a m,r=.ok a m->n<=m/\TL lo m a/\k<=a.1.length
theorem OkW.bad {n lo k:Nat}:OkW n lo (.bad k):=fun _ _ h=>C4
theorem OkW.ok {n lo m:Nat}{a:Tr} (h:n<=m) (h2:TT lo m a):OkW n lo (.ok a m):=fun _ _ e=>by cases e;exact⟨h,h2⟩
theorem OkW.ite {n lo:Nat}{c:Prop} [Decidable c] {a b:R Tr} (h1:c->OkW n lo a) (h2:¬ c->OkW n lo b):OkW n lo (if c then a else b):=by
 by_cases h:c
 ·exact Bx
 ·exact Bz
theorem OkW.up {n n' lo:Nat}{r:R Tr} (h:OkW n' lo r) (k:n<=n'):OkW n lo r:=fun a m e=>⟨Ak k (h a m e).1,(h a m e).2⟩
theorem OkW.sub {n lo n' lo':Nat}{r:R Tr}{f:Tr->Nat->R Tr} (h:OkW n' lo' r) (hf:∀ a m,n'<=m->TT lo' m a->OkW n lo (f a m)):OkW n lo (r.andThen f):=by
 cases r with
 | ok a m=>exact hf a m (h a m rfl).1 (h a m rfl).2
 | bad k=>exact OkW.bad
 | out=>exact fun _ _ h=>C4
theorem OkW.subL {n lo n' lo' k:Nat}{r:R (List Tr × Int)}{f:List Tr × Int->Nat->R Tr} (h:OkL n' lo' k r) (hf:∀ a m,n'<=m->TL lo' m a->k<=a.1.length->OkW n lo (f a m)):OkW n lo (r.andThen f):=by
 cases r with
 | ok a m=>exact hf a m (h a m rfl).1 (h a m rfl).2.1 (h a m rfl).2.2
 | bad k=>exact OkW.bad
 | out=>exact fun _ _ h=>C4
theorem OkW.want {E:Env}{w:List UInt8}{n lo n':Nat}{f:Unit->Nat->R Tr} (hf:∀ m,m=n'+1->OkW n lo (f () m)):OkW n lo ((want E w n').andThen f):=by
 unfold Go.Proofs.YtfmpphplbdojbaaGreatDoor.want;split
 ·exact hf _ rfl
 ·exact OkW.bad
theorem OkL.want {E:Env}{w:List UInt8}{n lo n' k:Nat}{f:Unit->Nat->R (List Tr × Int)} (hf:∀ m,m=n'+1->OkL n lo k (f () m)):OkL n lo k ((want E w n').andThen f):=by
 unfold Go.Proofs.YtfmpphplbdojbaaGreatDoor.want;split
 ·exact hf _ rfl
 ·exact fun _ _ h=>C4
theorem qJ {k:UInt8}{ok:Bool}{n:Nat} (hk:k<=68):OkW (n+1) n (leaf k ok n):=by
 unfold leaf;refine OkW.ite (fun _=>OkW.ok (C' _) ⟨⟨hk,Cf,.inr ⟨Cf,Cf⟩,by show n<=n+1;omega⟩,C' _,by show n<=n+1;omega,C' _⟩) (fun _=>OkW.bad)
theorem gE {E:Env}{n:Nat}:OkW (n+1) n (LC E n):=qJ Ch
theorem DI {E:Env}{n:Nat}:OkW (n+1) n (TH E n):=qJ Ch
theorem DR {E:Env}{n:Nat}:OkW n n (zH E n):=by unfold zH;exact OkW.ite (fun _=>DI.up Cf) (fun _=>OkW.ok (C' _) (rB Ch (C' _) (C' _)))
def ttF (lo n:Nat):F->Prop
 | .file=>lo=0
 | .fileImports a b=>lo=0/\UB a/\iA (-1) a.to n b
 | .fileDecls a b c=>lo=0/\UB a/\UB b/\a.to<=b.fr/\iA (-1) b.to n c
 | .namesMore a|.unionMore a|.exprsMore a|.typesMore a|.stmtsMore a=>iA (-1) lo n a
 | .members k _=>k<=68/\lo<=n
 | .binMore _ fr x|.primMore fr x|.dot fr x|.call fr x|.index fr x|.rest fr x=>lo<=fr/\UB x/\fr<=x.fr/\x.to<=n
 | .indexMore fr x a=>lo<=fr/\UB x/\fr<=x.fr/\iA (-1) x.to n a
 | .slice fr x y=>lo<=fr/\UB x/\fr<=x.fr/\UB y/\x.to<=y.fr/\y.to<=n
 | .row fr=>lo<=fr/\fr<=n
 | .clauses k _=>k<=68/\lo<=n|.clausesMore k _ a=>k<=68/\iA (-1) lo n a
 | .overall fr wd x=>lo<=fr/\UB x/\fr<=x.fr/\x.to<=n/\(wd=-1∨((x.to:Int)<=wd/\wd < (n:Int)))
 | _=>lo<=n
structure TOk (S:AB):Prop where
 t:∀ f n g lo,ttF lo n f->OkW n lo (S.t f n g)
 l:∀ mark shut o acc word n g lo,TL lo n (acc,word)->(o≠.call->word=-1)->OkL n lo acc.length (S.l mark shut o acc word n g)
theorem yD {k:UInt8}{wd:Int}{f t:Nat}{ks:List Tr}:(Tr.mk k wd f t ks).fr=f:=rfl
theorem TD {k:UInt8}{wd:Int}{f t:Nat}{ks:List Tr}:(Tr.mk k wd f t ks).to=t:=rfl
theorem PF (E:Env) (w:List UInt8) (n:Nat):n<=PB E w n/\PB E w n<=n+1:=by unfold PB;split <;> omega
variable {E:Env}{S:AB}
theorem TOk.p (H:TOk S) (f:F) (n:Nat) (g:Bool) (hf:ttF n n f):OkW n n (S.t f n g):=H.t f n g n hf
theorem rI (H:TOk S) (a b c:List UInt8) (o:One) (n:Nat) (g:Bool):OkL (n+1) (n+1) 0 (rows E S a b c o n g):=by
 unfold rows;refine OkL.want fun m hm=>?_
 subst hm;exact H.l _ _ _ _ _ _ _ _ ⟨C' _,.inl rfl⟩ (fun _=>rfl)
theorem fY (H:TOk S) (n:Nat) {fr:Nat} (hfr:fr<=n):OkW n fr (NJ E S fr n):=by
 unfold NJ xE
 try simp only [oA,mA,PA,zA]
 repeat' (first
   | exact OkW.bad
   | refine OkW.ite (fun _=>?_) (fun _=>?_)
   | refine OkW.want (fun m hm=>?_)
   | (refine OkW.sub (gE) ?_;rintro a m hm ⟨ha1,ha2,ha3,ha4⟩)
   | (refine OkW.sub (DI) ?_;rintro a m hm ⟨ha1,ha2,ha3,ha4⟩)
   | (refine OkW.sub (DR) ?_;rintro a m hm ⟨ha1,ha2,ha3,ha4⟩)
   | (refine OkW.subL (rI H _ _ _ _ _ _) ?_;rintro a m hm ⟨ha1,ha2⟩ hl)
   | (refine OkW.sub (H.p _ _ _ Dl) ?_;rintro a m hm ⟨ha1,ha2,ha3,ha4⟩)
   | exact gE.up Cf
   | exact DI.up Cf
   | exact (qJ Ch).up Cf
   | refine OkW.up (H.t _ _ _ _ ?_) Cf
   | refine OkW.ok Cf ?_)
 all_goals first|exact ((GC En ‹_› Cf (C' _)).low Cf).wide (Cf)|exact GC En ‹_› Cf (Cf)|exact rB Ch Cf (Cf)|(show ttF _ _ _;simp only [ttF])|skip
 all_goals (try simp only [TT,UB,iA,vA,yD,TD,Ao,Al])
 all_goals (try and_intros)
 all_goals first|assumption|omega|decide|exact .inl trivial|exact .inl rfl|exact iA.wide (iA.low ‹_› Cf) (Cf)|exact iA.wide (iA.low (iA.word (k:=0) ‹_› (.inl Cf)) Cf) (Cf)|(split <;> decide)|skip
theorem dO (H:TOk S) {acc:List Tr} (n:Nat) (g:Bool) {lo:Nat} (h:iA (-1) lo n acc):OkW n lo (XB E S acc n g):=by
 have hle:=h.le;unfold XB;refine OkW.ite (fun _=>?_) (fun _=>OkW.ok (C' _) (GC Ch h hle (C' _)));refine OkW.sub (gE) ?_;rintro a m hm ⟨ha1,ha2,ha3,ha4⟩;exact OkW.up (H.t _ _ _ _ (iA.snoc h Cf ha4 Cf ha1)) Cf
theorem AN (H:TOk S) {acc:List Tr} (n:Nat) (g:Bool) {lo:Nat} (h:iA (-1) lo n acc):OkW n lo (ZB E S acc n g):=by
 have hle:=h.le;unfold ZB;refine OkW.ite (fun _=>?_) (fun _=>OkW.ok (C' _) (GC Ch h hle (C' _)));refine OkW.sub (H.p .expr (n+1) g (C' _)) ?_;rintro a m hm ⟨ha1,ha2,ha3,ha4⟩;exact OkW.up (H.t _ _ _ _ (iA.snoc h Cf ha4 Cf ha1)) Cf
theorem UN (H:TOk S) {acc:List Tr} (n:Nat) (g:Bool) {lo:Nat} (h:iA (-1) lo n acc):OkW n lo (cC E S acc n g):=by
 have hle:=h.le;unfold cC;refine OkW.ite (fun _=>?_) (fun _=>OkW.ok (C' _) (GC Ch h hle (C' _)));refine OkW.sub (H.p .typ (n+1) g (C' _)) ?_;rintro a m hm ⟨ha1,ha2,ha3,ha4⟩;exact OkW.up (H.t _ _ _ _ (iA.snoc h Cf ha4 Cf ha1)) Cf
theorem VV (H:TOk S) (n:Nat) (g:Bool):OkW n n (nH E S n g):=by
 unfold nH;refine OkW.ite (fun _=>?_) (fun _=>H.p .typ n g (C' _));refine OkW.sub (H.p .typ (n+1) g (C' _)) ?_;rintro a m hm ⟨ha1,ha2,ha3,ha4⟩;refine OkW.ok Cf ?_;simp only [TT,UB,iA,yD,TD]
 and_intros
 all_goals first|assumption|omega|decide|exact .inl trivial
theorem lJ (H:TOk S) {acc:List Tr} (n:Nat) (g:Bool) {lo:Nat} (h:iA (-1) lo n acc):OkW n lo (jB E S acc n g):=by
 have hle:=h.le;unfold jB;refine OkW.sub (VV H n g) ?_;rintro a m hm ⟨ha1,ha2,ha3,ha4⟩;have hs:=iA.snoc h ha2 ha4 Cf ha1;exact OkW.ite (fun _=>OkW.up (H.t _ _ _ _ (show iA (-1) lo (m+1) _ from hs.wide Cf)) Cf) (fun _=>OkW.ok hm (GC Ch hs Cf (C' _)))
theorem yO (H:TOk S) {acc:List Tr} (n:Nat) (g:Bool) {lo:Nat} (h:iA (-1) lo n acc):OkW n lo (dC E S acc n g):=by
 have hle:=h.le;unfold dC;refine OkW.ite (fun _=>OkW.ok (C' _) (GC Ch h hle (C' _))) (fun _=>?_);refine OkW.ite (fun _=>OkW.up (H.t _ _ _ _ (show iA (-1) lo (n+1) _ from iA.snoc h (by simp only [vA,yD];omega) (by simp only [vA,TD];omega) Cf (rB Ch (C' _) (C' _)).1)) Cf) (fun _=>?_);refine OkW.sub (H.p .stmt n g (C' _)) ?_;rintro a m hm ⟨ha1,ha2,ha3,ha4⟩;have hs:=iA.snoc h ha2 ha4 Cf ha1;refine OkW.ite (fun _=>OkW.up (H.t _ _ _ _ hs) Cf) (fun _=>OkW.want fun m2 hm2=>?_);exact OkW.up (H.t _ _ _ _ (show iA (-1) lo m2 _ from hs.wide Cf)) Cf
theorem iX (H:TOk S) (n:Nat) (g:Bool):OkW n 0 (EF E S n g):=by
 unfold EF;refine OkW.want fun m hm=>?_
 refine OkW.sub gE ?_;rintro a m2 hm2 ⟨ha1,ha2,ha3,ha4⟩;refine OkW.want fun m3 hm3=>?_
 exact OkW.up (H.t _ _ _ _ (show ttF 0 m3 (.fileImports a []) from ⟨rfl,ha1,by show a.to<=m3;omega⟩)) Cf
theorem nL (H:TOk S) {name:Tr}{acc:List Tr} (n:Nat) (g:Bool) (h1:UB name) (h:iA (-1) name.to n acc):OkW n 0 (lB E S name acc n g):=by
 have hle:=h.le;unfold lB;refine OkW.ite (fun _=>?_) (fun _=>?_)
 ·refine OkW.sub (H.p .group n g (C' _)) ?_;rintro a m hm ⟨ha1,ha2,ha3,ha4⟩;refine OkW.want fun m3 hm3=>?_
  exact OkW.up (H.t _ _ _ _ (show ttF 0 m3 (.fileImports name (acc++[a])) from ⟨rfl,h1,(iA.snoc h ha2 ha4 Cf ha1).wide Cf⟩)) Cf
 ·obtain⟨hb1,hb2,hb3,hb4⟩:=GC (k:=2) Ch h hle (C' _);exact OkW.up (H.t _ _ _ _ (show ttF 0 n (.fileDecls name (xC 2 acc n) []) from ⟨rfl,h1,hb1,hb2,hb4⟩)) Cf
theorem wO (H:TOk S) {name imports:Tr}{acc:List Tr} (n:Nat) (g:Bool) (h1:UB name) (h2:UB imports) (h3:name.to<=imports.fr) (h:iA (-1) imports.to n acc):OkW n 0 (eC E S name imports acc n g):=by
 have hle:=h.le;unfold eC;refine OkW.ite (fun _=>?_) (fun _=>OkW.ite (fun _=>?_) (fun _=>?_))
 ·refine OkW.sub (H.p .group n g (C' _)) ?_;rintro a m hm ⟨ha1,ha2,ha3,ha4⟩;refine OkW.want fun m3 hm3=>?_
  exact OkW.up (H.t _ _ _ _ (show ttF 0 m3 (.fileDecls name imports (acc++[a])) from ⟨rfl,h1,h2,h3,(iA.snoc h ha2 ha4 Cf ha1).wide Cf⟩)) Cf
 ·refine OkW.sub (H.p .fn n g (C' _)) ?_;rintro a m hm ⟨ha1,ha2,ha3,ha4⟩;refine OkW.want fun m3 hm3=>?_
  exact OkW.up (H.t _ _ _ _ (show ttF 0 m3 (.fileDecls name imports (acc++[a])) from ⟨rfl,h1,h2,h3,(iA.snoc h ha2 ha4 Cf ha1).wide Cf⟩)) Cf
 ·obtain⟨hb1,hb2,hb3,hb4⟩:=GC (k:=2) Ch h hle (C' _);have l1:=h1.le;have l2:=h2.le;refine OkW.ok (C' _) ?_;simp only [TT,UB,iA,yD,TD]
  and_intros
  all_goals first|assumption|omega|decide|exact .inl trivial
theorem dR (H:TOk S) (n:Nat) (g:Bool):OkW n n (aD E S n g):=by
 unfold aD;refine OkW.sub (H.p .expr (n+1) g (C' _)) ?_;rintro a m hm ⟨ha1,ha2,ha3,ha4⟩;refine OkW.ok Cf ?_;simp only [TT,UB,iA,yD,TD]
 and_intros
 all_goals first|assumption|omega|(split <;> decide)|exact .inl trivial
theorem bV (H:TOk S) (n:Nat) (g:Bool):OkW n n (NE E S n g):=by
 unfold NE;have key:∀ (a:Tr) (m:Nat),n<=m->TT n m a->OkW n n ((S.t .typ (PB E [46,46,46] m) g).andThen fun t n2=>.ok (.mk 15 (if E.is m [46,46,46] then (m:Int) else -1) n n2 [a,t]) n2):=by
  rintro a m hm ⟨ha1,ha2,ha3,ha4⟩;unfold PB;by_cases hc:E.is m [46,46,46]=true
  ·simp only [hc,if_true];refine OkW.sub (H.p .typ (m+1) g (C' _)) ?_;rintro b m2 hm2 ⟨hb1,hb2,hb3,hb4⟩;refine OkW.ok Cf ?_;simp only [TT,UB,iA,yD,TD]
   and_intros
   all_goals first|assumption|omega|decide
  ·rw [if_neg hc,if_neg hc];refine OkW.sub (H.p .typ m g (C' _)) ?_;rintro b m2 hm2 ⟨hb1,hb2,hb3,hb4⟩;refine OkW.ok Cf ?_;simp only [TT,UB,iA,yD,TD]
   and_intros
   all_goals first|assumption|omega|decide|exact .inl trivial
 simp only [oA,mA];exact OkW.ite (fun _=>key _ _ (C' _) (rB Ch (C' _) (C' _))) (fun _=>OkW.sub gE fun a m hm ha=>key a m Cf ha)
theorem YO (H:TOk S) (n:Nat) (g:Bool):OkW n n (rC E S n g):=by
 unfold rC;refine OkW.sub gE ?_;rintro x m hm ⟨hx1,hx2,hx3,hx4⟩;have key:∀ (a:Tr) (m':Nat),m<=m'->TT m m' a->OkW n n ((S.t .typ (PB E [61] m') g).andThen fun t n2=>.ok (.mk 7 (if E.is m' [61] then (m':Int) else -1) n n2 [x,a,t]) n2):=by
  rintro a m' hm' ⟨ha1,ha2,ha3,ha4⟩;unfold PB;by_cases hc:E.is m' [61]=true
  ·simp only [hc,if_true];refine OkW.sub (H.p .typ (m'+1) g (C' _)) ?_;rintro b m2 hm2 ⟨hb1,hb2,hb3,hb4⟩;refine OkW.ok Cf ?_;simp only [TT,UB,iA,yD,TD]
   and_intros
   all_goals first|assumption|omega|decide
  ·rw [if_neg hc,if_neg hc];refine OkW.sub (H.p .typ m' g (C' _)) ?_;rintro b m2 hm2 ⟨hb1,hb2,hb3,hb4⟩;refine OkW.ok Cf ?_;simp only [TT,UB,iA,yD,TD]
   and_intros
   all_goals first|assumption|omega|decide|exact .inl trivial
 simp only [oA,mA];exact OkW.ite (fun _=>OkW.sub (H.p .tparams m g (C' _)) fun a m hm ha=>key a m Cf ha) (fun _=>key _ _ (C' _) (rB Ch (C' _) (C' _)))
theorem LQ (H:TOk S) {kind:UInt8}{o:One} (hk:kind<=68) (n:Nat) (g:Bool):OkW n n (CB E S kind o n g):=by
 unfold CB;refine OkW.subL (rI H _ _ _ _ _ _) ?_;rintro a m hm ⟨ha1,ha2⟩ hl;refine OkW.want fun m2 hm2=>OkW.ok Cf ?_
 exact ((GC hk ha1 hm (C' _)).low Cf).wide Cf
theorem gP (H:TOk S) (n:Nat) (g:Bool):OkW n n (nC E S n g):=by
 unfold nC;refine OkW.sub gE ?_;rintro x m hm ⟨hx1,hx2,hx3,hx4⟩;have key:∀ (a:Tr) (m':Nat),n<=m'->TT n m' a->OkW n n (if E.is m' [91] then if E.is (m'+1) [93] then .bad (m'+1) else (rows E S [91] [44] [93] .typ m' g).andThen fun p n3=>(want E [93] n3).andThen fun _ n4=>.ok (.mk 30 (-1) n n4 [a,xC 11 p.1 n3]) n4 else .ok a m'):=by
  rintro a m' hm' ⟨ha1,ha2,ha3,ha4⟩;refine OkW.ite (fun _=>OkW.ite (fun _=>OkW.bad) (fun _=>?_)) (fun _=>OkW.ok hm' ⟨ha1,ha2,ha3,ha4⟩);refine OkW.subL (rI H _ _ _ _ _ _) ?_;rintro b m2 hm2 ⟨hb1,hb2⟩ hl;refine OkW.want fun m3 hm3=>OkW.ok Cf ?_
  obtain⟨hc1,hc2,hc3,hc4⟩:=GC (k:=11) Ch hb1 hm2 (C' _);simp only [TT,UB,iA,yD,TD]
  and_intros
  all_goals first|assumption|omega|decide|exact .inl trivial
 simp only [oA,mA,zA];refine OkW.ite (fun _=>OkW.sub gE ?_) (fun _=>key _ _ Cf ⟨hx1,hx2,hx3,hx4⟩);rintro y m2 hm2 ⟨hy1,hy2,hy3,hy4⟩;refine key _ _ Cf ?_;simp only [TT,UB,iA,yD,TD]
 and_intros
 all_goals first|assumption|omega|decide|exact .inl trivial
theorem dH {k:UInt8}{wd:Int}{fr lo m:Nat}{x y:Tr} (hk:k<=68) (h0:lo<=fr) (h1:UB x) (h2:fr<=x.fr) (hy:UB y) (h3:x.to<=y.fr) (h4:y.to<=m) (hw:wd=-1∨((x.to:Int)<=wd/\wd < (y.fr:Int))):TT lo m (.mk k wd fr m [x,y]):=by
 have l1:=h1.le;have l2:=hy.le;simp only [TT,UB,iA,vA,yD,TD]
 and_intros
 all_goals first|assumption|omega|decide|exact .inl trivial
theorem PR (H:TOk S) {least:Nat}{fr lo:Nat}{x:Tr} (h0:lo<=fr) (h1:UB x) (h2:fr<=x.fr) (n:Nat) (h3:x.to<=n) (g:Bool):OkW n lo (uD E S least fr x n g):=by
 have l1:=h1.le;unfold uD;refine OkW.ite (fun _=>OkW.ok (C' _) ⟨h1,Cf,l1,h3⟩) (fun _=>?_);refine OkW.sub (H.p (.binary _) (n+1) g (C' _)) ?_;rintro a m hm ⟨ha1,ha2,ha3,ha4⟩;obtain⟨hb1,hb2,hb3,hb4⟩:=dH (k:=37) (wd:=(n:Int)) (m:=m) Ch (C' fr) h1 h2 ha1 Cf ha4 (.inr Cf);exact OkW.up (H.t _ _ _ lo ⟨h0,hb1,by simp only [yD];omega,hb4⟩) Cf
theorem mP (H:TOk S) {fr lo:Nat}{x:Tr} (h0:lo<=fr) (h1:UB x) (h2:fr<=x.fr) (n:Nat) (h3:x.to<=n) (g:Bool):OkW n lo (DC E S fr x n g):=by
 have l1:=h1.le;unfold DC;refine OkW.ite (fun _=>OkW.sub (H.t (.dot fr x) n g fr ⟨C' _,h1,h2,h3⟩) ?_) (fun _=>OkW.ite (fun _=>OkW.sub (H.t (.call fr x) n false fr ⟨C' _,h1,h2,h3⟩) ?_) (fun _=>OkW.ite (fun _=>OkW.sub (H.t (.index fr x) n false fr ⟨C' _,h1,h2,h3⟩) ?_) (fun _=>OkW.ite (fun _=>OkW.sub (H.p .elements n g (C' _)) ?_) (fun _=>OkW.ok (C' _) ⟨h1,Cf,l1,h3⟩))))
 ·exact A9
 ·exact A9
 ·exact A9
 ·rintro a m hm ⟨ha1,ha2,ha3,ha4⟩;obtain⟨hb1,hb2,hb3,hb4⟩:=dH (k:=39) (wd:=-1) (m:=m) Ch (C' fr) h1 h2 ha1 Cf ha4 (.inl rfl);exact OkW.up (H.t _ _ _ lo ⟨h0,hb1,by simp only [yD];omega,hb4⟩) hm
theorem bY (H:TOk S) {fr lo:Nat}{x:Tr} (h0:lo<=fr) (h1:UB x) (h2:fr<=x.fr) (n:Nat) (h3:x.to<=n) (g:Bool):OkW n lo (SJ E S fr x n g):=by
 have l1:=h1.le;unfold SJ;refine OkW.ite (fun _=>OkW.ite (fun _=>OkW.want fun m hm=>OkW.ok Cf ?_) (fun _=>?_)) (fun _=>?_)
 ·simp only [TT,UB,iA,vA,yD,TD]
  and_intros
  all_goals first|assumption|omega|decide|exact .inl trivial
 ·refine OkW.sub (H.p .typ (n+2) g (C' _)) ?_;rintro a m hm ⟨ha1,ha2,ha3,ha4⟩;exact OkW.want fun m2 hm2=>OkW.ok Cf (dH Ch h0 h1 h2 ha1 Cf Cf (.inl rfl))
 ·refine OkW.sub gE ?_;rintro a m hm ⟨ha1,ha2,ha3,ha4⟩;exact OkW.ok Cf (dH Ch h0 h1 h2 ha1 Cf Cf (.inl rfl))
theorem lX (H:TOk S) {fr lo:Nat}{x:Tr} (h0:lo<=fr) (h1:UB x) (h2:fr<=x.fr) (n:Nat) (h3:x.to<=n) (g:Bool):OkW n lo (bG E S fr x n g):=by
 have l1:=h1.le;unfold bG;refine OkW.subL (rI H _ _ _ _ _ _) ?_;rintro⟨a,wd⟩ m hm ⟨ha1,ha2⟩ hl;refine OkW.want fun m2 hm2=>OkW.ok Cf ?_
 rcases ha2 with rfl|⟨w,rfl,hne,hb,hw⟩
 ·obtain⟨hc1,hc2,hc3,hc4⟩:=GC (k:=11) (n:=m) Ch ha1 hm (C' _);exact dH Ch h0 h1 h2 hc1 Cf Cf (.inl rfl)
 ·have hl:=GW (k:=11) (n:=m) Ch hb hne;generalize xC 11 a m=y at hl ⊢;obtain⟨hc1,hc2,hc3,hc4⟩:=hl;refine⟨⟨Ch,?_,.inr ⟨?_,?_⟩,?_,?_,h1,?_,?_,hc1,?_⟩,?_,?_,?_⟩
  all_goals (try simp only [iA,yD,TD])
  all_goals omega
theorem GU (H:TOk S) {fr lo:Nat}{x:Tr} (h0:lo<=fr) (h1:UB x) (h2:fr<=x.fr) (n:Nat) (h3:x.to<=n) (g:Bool):OkW n lo (sE E S fr x n g):=by
 have l1:=h1.le;unfold sE;have key:∀ (a:Tr) (m:Nat),n+1<=m->TT (n+1) m a->OkW n lo (if E.is m [58] then S.t (.slice fr x a) (m+1) g else S.t (.indexMore fr x [a]) m g):=by
  rintro a m hm ⟨ha1,ha2,ha3,ha4⟩;refine OkW.ite (fun _=>OkW.up (H.t _ _ _ lo ⟨h0,h1,h2,ha1,Cf,Cf⟩) Cf) (fun _=>OkW.up (H.t _ _ _ lo ⟨h0,h1,h2,Cf,Cf,ha1,ha4⟩) Cf)
 simp only [oA,mA];exact OkW.ite (fun _=>key _ _ (C' _) (rB Ch (C' _) (C' _))) (fun _=>OkW.sub (H.p .expr (n+1) g (C' _)) key)
theorem aO (H:TOk S) {fr lo:Nat}{x:Tr}{acc:List Tr} (h0:lo<=fr) (h1:UB x) (h2:fr<=x.fr) (n:Nat) (h3:iA (-1) x.to n acc) (g:Bool):OkW n lo (fC E S fr x acc n g):=by
 have l1:=h1.le;have l3:=h3.le;unfold fC;refine OkW.ite (fun _=>?_) (fun _=>?_)
 ·refine OkW.sub (H.p .expr (n+1) g (C' _)) ?_;rintro a m hm ⟨ha1,ha2,ha3,ha4⟩;exact OkW.up (H.t _ _ _ lo ⟨h0,h1,h2,iA.snoc h3 Cf ha4 Cf ha1⟩) Cf
 ·have hc:=PF E [44] n;refine OkW.want fun m hm=>OkW.ok Cf ?_
  obtain⟨hc1,hc2,hc3,hc4⟩:=GC (k:=11) (n:=n) Ch h3 l3 (C' _);exact dH Ch h0 h1 h2 hc1 Cf Cf (.inl rfl)
theorem sU (H:TOk S) {fr lo:Nat}{x y:Tr} (h0:lo<=fr) (h1:UB x) (h2:fr<=x.fr) (h4:UB y) (h5:x.to<=y.fr) (n:Nat) (h3:y.to<=n) (g:Bool):OkW n lo (UE E S fr x y n g):=by
 have l1:=h1.le;have l2:=h4.le;unfold UE;refine OkW.ite (fun _=>OkW.ok Cf ?_) (fun _=>OkW.sub (H.p .expr n g (C' _)) ?_)
 ·simp only [TT,UB,iA,vA,yD,TD]
  and_intros
  all_goals first|assumption|omega|decide|exact .inl trivial
 rintro a m hm ⟨ha1,ha2,ha3,ha4⟩;have key:∀ (b:Tr) (m':Nat),m<=m'->TT m m' b->OkW n lo ((want E [93] m').andThen fun _ n3=>.ok (.mk 31 (-1) fr n3 [x,y,a,b]) n3):=by
  rintro b m' hm' ⟨hb1,hb2,hb3,hb4⟩;refine OkW.want fun m2 hm2=>OkW.ok Cf ?_
  simp only [TT,UB,iA,vA,yD,TD]
  and_intros
  all_goals first|assumption|omega|decide|exact .inl trivial
 simp only [oA,mA];exact OkW.ite (fun _=>OkW.sub (H.p .expr (m+1) g (C' _)) fun b m' hm' hb=>key b m' Cf (hb.low Cf)) (fun _=>key _ _ (C' _) (rB Ch (C' _) (C' _)))
theorem SI {s x:Tr} (h:UB s) (hx:x∈s.kids):UB x/\s.fr<=x.fr/\x.to<=s.to:=by
 obtain⟨k,w,f,t,ks⟩:=s;have hk:iA w f t ks:=h.2.2.2;have key:∀ {l:List Tr}{lo hi:Nat},iA w lo hi l->x∈l->UB x/\lo<=x.fr/\x.to<=hi:=by
  intro l
  induction l with
  | nil=>intro lo hi _ hm;cases hm
  | cons y ys ih =>
   intro lo hi hl hm;rcases List.mem_cons.1 hm with rfl|hm
   ·exact⟨hl.2.2.1,hl.1,hl.2.2.2.le⟩
   ·obtain⟨a,b,c⟩:=ih hl.2.2.2 hm;exact⟨a,by have:=hl.1;have:=hl.2.2.1.le;omega,c⟩
 exact key hk hx
theorem uX (H:TOk S) {fr lo:Nat}{left:Tr} (h0:lo<=fr) (h1:UB left) (h2:fr<=left.fr) (n:Nat) (h3:left.to<=n) (g:Bool):OkW n lo (WF E S fr left n g):=by
 have l1:=h1.le;unfold WF;refine OkW.ite (fun _=>OkW.sub (H.p .exprs (n+1) g (C' _)) ?_) (fun _=>?_)
 ·rintro a m hm ⟨ha1,ha2,ha3,ha4⟩;exact OkW.ok Cf (dH Ch h0 h1 h2 ha1 Cf ha4 (.inr Cf))
 split
 ·rename_i x hx;obtain⟨hx1,hx2,hx3⟩:=SI (x:=x) h1 Dj;have hx4:=hx1.le;refine OkW.ite (fun _=>OkW.ok Cf ?_) (fun _=>OkW.ite (fun _=>OkW.sub (H.p .expr (n+1) g (C' _)) ?_) (fun _=>OkW.ok (C' _) ?_))
  ·simp only [TT,UB,iA,vA,yD,TD]
   and_intros
   all_goals first|assumption|omega|decide|exact .inl trivial
  ·rintro a m hm ⟨ha1,ha2,ha3,ha4⟩;exact OkW.ok Cf (dH Ch h0 hx1 Cf ha1 Cf ha4 (.inl rfl))
  ·simp only [TT,UB,iA,vA,yD,TD]
   and_intros
   all_goals first|assumption|omega|decide|exact .inl trivial
 ·exact OkW.bad
theorem MN {s:Tr}{lo n:Nat} (h:TT lo n s):OkW n lo (only s n):=by
 unfold only;refine OkW.ite (fun _=>?_) (fun _=>OkW.bad);split
 ·rename_i x r hx;obtain⟨hx1,hx2,hx3⟩:=SI (x:=x) h.1 Dj;have:=h.2.1;have:=h.2.2.2;have:=hx1.le;exact OkW.ok (C' _) ⟨hx1,Cf,Cf,Cf⟩
 ·exact OkW.bad
theorem ZI {k:UInt8}{fr m:Nat}{a b c d:Tr}{p1 p2 p3:Nat} (hk:k<=68) (ha:TT fr p1 a) (hb:TT p1 p2 b) (hc:TT p2 p3 c) (hd:TT p3 m d):TT fr m (.mk k (-1) fr m [a,b,c,d]):=by
 obtain⟨a1,a2,a3,a4⟩:=ha;obtain⟨b1,b2,b3,b4⟩:=hb;obtain⟨c1,c2,c3,c4⟩:=hc;obtain⟨d1,d2,d3,d4⟩:=hd;simp only [TT,UB,iA,vA,yD,TD]
 and_intros
 all_goals first|assumption|omega|decide|exact .inl trivial
theorem eP {k:UInt8}{fr m:Nat}{a b c:Tr}{p1 p2:Nat} (hk:k<=68) (ha:TT fr p1 a) (hb:TT p1 p2 b) (hc:TT p2 m c):TT fr m (.mk k (-1) fr m [a,b,c]):=by
 obtain⟨a1,a2,a3,a4⟩:=ha;obtain⟨b1,b2,b3,b4⟩:=hb;obtain⟨c1,c2,c3,c4⟩:=hc;simp only [TT,UB,iA,vA,yD,TD]
 and_intros
 all_goals first|assumption|omega|decide|exact .inl trivial
theorem GI (H:TOk S) {fr:Nat}{a b:Tr}{p1:Nat} (n:Nat) (g:Bool) (ha:TT fr p1 a) (hb:TT p1 n b):OkW n fr (SD E S fr a b n g):=by
 unfold SD;refine OkW.sub (H.p .block n g (C' _)) fun c m hm hc=>?_
 have key:∀ (d:Tr) (m':Nat),m<=m'->TT m m' d->OkW n fr (.ok (.mk 59 (-1) fr m' [a,b,c,d]) m'):=fun d m' hm' hd=>OkW.ok Cf (ZI Ch ha hb hc hd)
 simp only [oA,mA];exact OkW.ite (fun _=>OkW.ite (fun _=>OkW.sub (H.p .ifs (m+1) g (C' _)) fun d m' hm' hd=>key d m' Cf (hd.low Cf)) (fun _=>OkW.sub (H.p .block (m+1) g (C' _)) fun d m' hm' hd=>key d m' Cf (hd.low Cf))) (fun _=>key _ _ (C' _) (rB Ch (C' _) (C' _)))
theorem uY (H:TOk S) (n:Nat) (g:Bool):OkW n n (XI E S n g):=by
 unfold XI;refine OkW.ite (fun _=>OkW.sub (H.p .expr (n+2) true (C' _)) fun c m hm hc=>?_) (fun _=>OkW.sub (H.p .simple (n+1) true (C' _)) fun s m hm hs=>OkW.ite (fun _=>OkW.sub (H.p .expr (m+1) true (C' _)) fun c m2 hm2 hc=>?_) (fun _=>OkW.sub (MN hs) fun c m2 hm2 hc=>?_))
 ·exact (GI H m g (rB Ch Cf (C' (n+1))) (hc.low Cf)).up Cf
 ·exact (GI H m2 g (hs.low Cf) (hc.low Cf)).up Cf
 ·exact (GI H m2 g (rB Ch Cf (C' (n+1))) hc).up Cf
theorem CU {s a b:Tr}{lo n:Nat} (h:TT lo n s) (he:asked E s=some (a,b)):∃ p,TT lo p a/\TT p n b:=by
 have h1:=h.1;have h2:=h.2.1;have h3:=h.2.2.1;have h4:=h.2.2.2;unfold asked at he;split at he
 ·rename_i x hk hx;obtain⟨x1,x2,x3⟩:=SI (x:=x) h1 Dj;split at he
  ·rename_i y h33 hy;cases he;obtain⟨y1,y2,y3⟩:=SI (x:=b) x1 Fq;have:=y1.le;exact⟨s.fr,rB (k:=0) Ch h2 (C' _),y1,Cf,Cf,Cf⟩
  ·cases he
 ·rename_i l r hk hx;obtain⟨k,w,f,t,ks⟩:=s;have hx':ks=[l,r]:=hx;subst hx';have hL:iA w f t [l,r]:=h1.2.2.2;have l1:=hL.1;have l2:=hL.2.2.1;have r1:=hL.2.2.2.1;have r2:=hL.2.2.2.2.2.1;have r3:=hL.2.2.2.2.2.2;have r3':r.to<=t:=r3;simp only [yD,TD] at h2 h3 h4;split at he
  ·split at he
   ·rename_i c d hc hd;obtain⟨c1,c2,c3⟩:=SI (x:=c) l2 I7;obtain⟨d1,d2,d3⟩:=SI (x:=d) r2 I8;split at he
    ·split at he
     ·rename_i y hy;cases he;obtain⟨y1,y2,y3⟩:=SI (x:=b) d1 Fq;have:=y1.le;have:=c1.le;exact⟨l.to,⟨c1,Cf,Cf,c3⟩,y1,Cf,Cf,Cf⟩
     ·cases he
    ·cases he
   ·cases he
  ·cases he
 ·cases he
theorem nF (H:TOk S) {fr p1 p2:Nat}{a t:Tr}{s:Option Tr} (n:Nat) (g:Bool) (h1:TT fr p1 a) (h2:TT p1 p2 t) (h2n:p2<=n) (h3:∀ x,s=some x->TT p1 n x):OkW n fr (qB E S fr a s t n g):=by
 have h1n:p1<=p2:=by have:=h2.2.1;have:=h2.2.2.1;have:=h2.2.2.2;omega
 unfold qB;cases s with
 | none=>exact OkW.sub (H.t (.clauses 62 1) n g n ⟨Ch,C' _⟩) fun c m hm hc=>OkW.ok hm (eP Ch h1 h2 (hc.low h2n))
 | some s =>
  have hs:=h3 s rfl
  show OkW n fr (match asked E s with|some (name,x)=>_|none=>_)
  cases he:asked E s with
  | none=>exact OkW.sub (MN hs) fun t2 m hm ht=>OkW.sub (H.t (.clauses 62 1) m g m ⟨Ch,C' _⟩) fun c m2 hm2 hc=>OkW.ok Cf (eP Ch h1 ht hc)
  | some p =>
   obtain⟨x,y⟩:=p;obtain⟨q,hx,hy⟩:=CU hs he;exact OkW.sub (H.t (.clauses 62 2) n g n ⟨Ch,C' _⟩) fun c m hm hc=>OkW.ok hm (ZI Ch h1 hx hy hc)
theorem qH (H:TOk S) {fr p1:Nat}{a:Tr} (n:Nat) (g:Bool) (h1:TT fr p1 a) (h1n:p1<=n):OkW n fr (nB E S fr a n g):=by
 unfold nB;refine OkW.ite (fun _=>nF H n g (h1.wide h1n) (rB Ch (C' _) (C' _)) (C' _) (fun _ h=>C4)) (fun _=>OkW.sub (H.p .simple n true (C' _)) fun s m hm hs=>?_);exact (nF H m g (h1.wide h1n) (rB Ch (C' _) (C' _)) hm (fun _ h=>Ga)).up hm
theorem NP (H:TOk S) (n:Nat) (g:Bool):OkW n n (qC E S n g):=by
 unfold qC;refine OkW.ite (fun _=>(nF H (n+1) g (rB Ch Cf (C' (n+1))) (rB Ch (C' _) (C' _)) (C' _) (fun _ h=>C4)).up Cf) (fun _=>OkW.ite (fun _=>(qH H (n+2) g (rB Ch Cf (C' (n+1))) Cf).up Cf) (fun _=>OkW.sub (H.p .simple (n+1) true (C' _)) fun s m hm hs=>OkW.ite (fun _=>(qH H (m+1) g (hs.low Cf) Cf).up Cf) (fun _=>?_)));exact (nF H m g (rB Ch Cf (C' (n+1))) (rB Ch (C' _) (C' _)) Cf (fun _ h=>Ga)).up Cf
theorem FQ (H:TOk S) {kind:UInt8}{sort:Nat} (hk:kind<=68) (n:Nat):OkW n n (rD E S kind sort n):=by
 unfold rD;refine OkW.want fun m hm=>?_
 exact OkW.up ((H.t (.clausesMore kind sort []) m false n) ⟨hk,by show n<=m;omega⟩) Cf
theorem CL (H:TOk S) {kind:UInt8}{sort:Nat}{acc:List Tr} (hk:kind<=68) (n:Nat) (g:Bool) {lo:Nat} (h:iA (-1) lo n acc):OkW n lo (mB E S kind sort acc n g):=by
 have hle:=h.le;unfold mB;refine OkW.ite (fun _=>OkW.ok Cf ((GC Ch h hle (C' _)).wide Cf)) (fun _=>?_);have key:∀ (x:Tr) (m:Nat),n<=m->TT n m x->OkW n lo ((want E [58] m).andThen fun _ n2=>(S.t .stmts n2 g).andThen fun s n3=>S.t (.clausesMore kind sort (acc++[.mk kind (-1) n n3 [x,s]])) n3 g):=by
  rintro x m hm ⟨x1,x2,x3,x4⟩;refine OkW.want fun m2 hm2=>OkW.sub (H.p .stmts m2 g (C' _)) ?_
  rintro s m3 hm3 ⟨s1,s2,s3,s4⟩;obtain⟨t1,t2,t3,t4⟩:=dH (k:=kind) (wd:=-1) (m:=m3) hk (C' n) x1 x2 s1 Cf s4 (.inl rfl);exact OkW.up (H.t (.clausesMore kind sort (acc++[.mk kind (-1) n m3 [x,s]])) m3 g lo ⟨hk,iA.snoc h t2 t4 Cf t1⟩) Cf
 simp only [oA,mA,zA];refine OkW.ite (fun _=>key _ _ Cf (rB Ch Cf (C' _))) (fun _=>OkW.want fun m hm=>OkW.sub (H.p (.cased sort) m g (C' _)) fun x m2 hm2 hx=>key x m2 Cf (hx.low Cf))
theorem ER (H:TOk S) {fr lo:Nat}{wd:Int}{x:Tr} (h0:lo<=fr) (h1:UB x) (h2:fr<=x.fr) (n:Nat) (h3:x.to<=n) (hw:wd=-1∨((x.to:Int)<=wd/\wd < (n:Int))) (g:Bool):OkW n lo (cD E S fr wd x n g):=by
 have l1:=h1.le;unfold cD;refine OkW.want fun m hm=>OkW.sub (H.p .expr m true (C' _)) ?_
 rintro a m2 hm2 ⟨a1,a2,a3,a4⟩;refine OkW.sub (H.p .block m2 g (C' _)) ?_;rintro b m3 hm3 ⟨b1,b2,b3,b4⟩;refine OkW.ok Cf ?_;simp only [TT,UB,iA,vA,yD,TD]
 and_intros
 all_goals first|assumption|omega|decide|exact .inl trivial
theorem uK (H:TOk S) {fr p1:Nat}{a:Tr} (n:Nat) (g:Bool) (h1:TT fr p1 a) (h1n:p1<=n):OkW n fr (kD E S fr a n g):=by
 unfold kD;refine OkW.want fun m hm=>?_
 have k2:∀ (c d:Tr) (m1 m2:Nat),m<=m1->m1+1<=m2->TT m m1 c->TT (m1+1) m2 d->OkW n fr ((S.t .block m2 g).andThen fun b n5=>.ok (.mk 65 (-1) fr n5 [a,c,d,b]) n5):=fun c d m1 m2 k1 k2 hc hd =>
  OkW.sub (H.p .block m2 g (C' _)) fun b m3 hm3 hb=>OkW.ok Cf (ZI Ch (h1.wide (show p1<=m from Cf)) hc (hd.low Cf) hb)
 have k1:∀ (c:Tr) (m1:Nat),m<=m1->TT m m1 c->OkW n fr ((want E [59] m1).andThen fun _ n3=>(if E.is n3 [123] then .ok (vA 0 n3) n3 else S.t .simple n3 true).andThen fun last n4=>(S.t .block n4 g).andThen fun b n5=>.ok (.mk 65 (-1) fr n5 [a,c,last,b]) n5):=by
  intro c m1 hm1 hc;refine OkW.want fun m2 hm2=>?_
  subst hm2;simp only [oA,mA];exact OkW.ite (fun _=>k2 _ _ _ _ hm1 (C' _) hc (rB Ch (C' _) (C' _))) (fun _=>OkW.sub (H.p .simple (m1+1) true (C' _)) fun d m2 hm2 hd=>k2 _ _ _ _ hm1 hm2 hc hd)
 rw [oA];exact OkW.ite (fun _=>k1 _ _ (C' _) (rB Ch (C' _) (C' _))) (fun _=>OkW.sub (H.p .expr m true (C' _)) k1)
theorem tW (H:TOk S) (n:Nat) (g:Bool):OkW n n (fG E S n g):=by
 have hN:TT n (n+1) (vA 0 (n+1)):=rB Ch Cf (C' _);have hN':TT (n+1) (n+1) (vA 0 (n+1)):=rB Ch (C' _) (C' _);unfold fG;refine OkW.ite (fun _=>OkW.sub (H.p .block (n+1) g (C' _)) fun b m hm hb=>OkW.ok Cf (ZI Ch hN hN' hN' hb)) (fun _=>?_);refine OkW.ite (fun _=>OkW.up (H.t _ _ _ n ⟨C' _,hN.1,hN.2.1,hN.2.2.2,.inl rfl⟩) Cf) (fun _=>OkW.ite (fun _=>(uK H (n+1) g hN (C' _)).up Cf) (fun _=>?_));refine OkW.sub (H.p .exprs (n+1) true (C' _)) fun l m hm hl=>?_
 obtain⟨l1,l2,l3,l4⟩:=hl;refine OkW.ite (fun _=>OkW.up (H.t (.overall n (m:Int) l) _ _ n ⟨C' _,l1,Cf,Cf,.inr Cf⟩) Cf) (fun _=>OkW.sub (H.t (.rest (n+1) l) m true (n+1) ⟨C' _,l1,l2,l4⟩) fun s m2 hm2 hs=>?_);refine OkW.ite (fun _=>(uK H m2 g (hs.low Cf) (C' _)).up Cf) (fun _=>OkW.sub (MN hs) fun x m3 hm3 hx=>OkW.sub (H.p .block m3 g (C' _)) fun b m4 hm4 hb=>OkW.ok Cf ?_);exact ZI Ch hN hx (rB Ch (C' _) (C' _)) hb
theorem XV (H:TOk S) (mark shut:List UInt8) (o:One) (acc:List Tr) (word:Int) (n:Nat) (g:Bool) (lo:Nat) (h:TL lo n (acc,word)) (ho:o≠.call->word=-1):OkL n lo acc.length (LF E S mark shut o acc word n g):=by
 unfold LF;by_cases hc:E.is n shut=true
 ·rw [if_pos hc];exact fun a m e=>by cases e;exact⟨C' _,h,C' _⟩
 rw [if_neg hc];obtain⟨h1,h2⟩:=h;simp only at h1 h2;have key:∀ r:R (Tr × Int),(∀ p m,r=.ok p m->n<=m/\TL lo m (acc++[p.1],p.2)/\(o≠.call->p.2=-1))->OkL n lo acc.length (r.andThen fun p n1=>if E.is n1 shut then S.l mark shut o (acc++[p.1]) p.2 n1 g else (want E mark n1).andThen fun _ n2=>S.l mark shut o (acc++[p.1]) p.2 n2 g):=by
  intro r hr;cases r with
  | ok p m =>
   obtain⟨hm,hp,hq⟩:=hr p m rfl;have hup:∀ m',m<=m'->OkL n lo acc.length (S.l mark shut o (acc++[p.1]) p.2 m' g):=by
    intro m' hm' a m2 e;have hp':TL lo m' (acc++[p.1],p.2):=⟨hp.1.wide hm',hp.2.imp id (fun⟨w,a,b,c,d⟩=>⟨w,a,b,c,Cf⟩)⟩;obtain⟨q1,q2,q3⟩:=H.l mark shut o (acc++[p.1]) p.2 m' g lo hp' hq a m2 e;exact⟨Cf,q2,by simp at q3;omega⟩
   show OkL n lo acc.length (if E.is m shut then _ else _)
   by_cases hs:E.is m shut=true
   ·rw [if_pos hs];exact hup m (C' _)
   ·rw [if_neg hs];exact OkL.want fun m' hm'=>hup m' Cf
  | bad k=>exact fun _ _ h=>C4
  | out=>exact fun _ _ h=>C4
 refine key _ ?_;have hadd:∀ (x:Tr) (m:Nat),TT n m x->iA (-1) lo m (acc++[x]):=fun x m hx=>iA.snoc h1 hx.2.1 hx.2.2.2 I9 hx.1
 have sub:∀ (r:R Tr) (f:Tr->Nat->R (Tr × Int)),OkW n n r->(∀ a m,n<=m->TT n m a->∀ p m',f a m=.ok p m'->n<=m'/\TL lo m' (acc++[p.1],p.2)/\(o≠.call->p.2=-1))->∀ p m,r.andThen f=.ok p m->n<=m/\TL lo m (acc++[p.1],p.2)/\(o≠.call->p.2=-1):=by
  intro r f hr hf p m e;cases r with
  | ok a m1=>obtain⟨q1,q2⟩:=hr a m1 rfl;exact hf a m1 q1 q2 p m e
  | bad k=>cases e
  | out=>cases e
 have plain:∀ o':One,o≠.call->ttF n n (.one o')->∀ p m,((S.t (.one o') n g).andThen fun x n1=>(.ok (x,word) n1:R (Tr × Int)))=.ok p m->n<=m/\TL lo m (acc++[p.1],p.2)/\(o≠.call->p.2=-1) :=
  fun o' hne hf=>sub _ _ (H.p (.one o') n g hf) (fun a m hm ha p m' e=>by cases e;exact⟨hm,⟨hadd a m ha,.inl (ho hne)⟩,ho⟩)
 cases o with
 | call =>
  intro p m e;have e':(if 0<=word then (R.bad n:R (Tr × Int)) else (S.t .expr n g).andThen fun x n1=>if E.is n1 [46,46,46] then .ok (x,(n1:Int)) (n1+1) else .ok (x,word) n1)=.ok p m:=e;split at e'
  ·cases e'
  ·rename_i hw;have hw1:word=-1:=h2.elim id (fun⟨w,a,_⟩=>Cf);refine sub _ _ (H.p .expr n g (C' _)) (fun a m hm ha p m' e=>?_) p m e';split at e
   ·cases e;exact⟨Cf,⟨(hadd a m ha).wide Cf,.inr ⟨m,rfl,Cm,hadd a m ha,Cf⟩⟩,fun h=>absurd rfl h⟩
   ·cases e;exact⟨hm,⟨hadd a m ha,.inl hw1⟩,fun h=>absurd rfl h⟩
 | expr=>exact plain .expr Cm (C' _)
 | param=>exact plain .param Cm (C' _)
 | tparam=>exact plain .tparam Cm (C' _)
 | typ=>exact plain .typ Cm (C' _)
 | field=>exact plain .field Cm (C' _)
 | elem=>exact plain .elem Cm (C' _)
 | element=>exact plain .element Cm (C' _)
 | importSpec=>exact plain .importSpec Cm (C' _)
 | constSpec=>exact plain .constSpec Cm (C' _)
 | typeSpec=>exact plain .typeSpec Cm (C' _)
 | valueSpec=>exact plain .valueSpec Cm (C' _)
theorem OkW.lo {n lo:Nat}{r:R Tr} (h:OkW n n r) (k:lo<=n):OkW n lo r:=fun a m e=>⟨(h a m e).1,(h a m e).2.low k⟩
theorem VW (H:TOk S):TOk (step E S):=by
 refine⟨fun f n g lo hf=>?_,fun mark shut o acc word n g lo h ho=>XV H mark shut o acc word n g lo h ho⟩
 show OkW n lo (DF E S f n g)
 cases f with
 | file=>cases hf;exact iX H n g
 | fileImports name acc=>obtain⟨rfl,h1,h2⟩:=hf;exact nL H n g h1 h2
 | fileDecls name imports acc=>obtain⟨rfl,h1,h2,h3,h4⟩:=hf;exact wO H n g h1 h2 h3 h4
 | one o =>
  cases o with
  | expr=>exact (H.p .expr n g (C' _)).lo hf
  | param=>exact (bV H n g).lo hf
  | typ=>exact (H.p .typ n g (C' _)).lo hf
  | typeSpec=>exact (YO H n g).lo hf
  | call=>exact OkW.bad
  | _ =>
   refine OkW.lo ?_ hf;have haf:=PF E [60,45] (n+1);simp only [DF,uB,NB,XD,XC,RD,OD,tI,WE,kG,FE,PC,OB,QC,QE,EE,ZC,lC,oC,UD,dD,CE,LB,IB,fnB,xE,mC,oA,mA,PA,zA]
   repeat' (first|exact OkW.bad|refine OkW.ite (fun _=>?_) (fun _=>?_)|refine OkW.want (fun m hm=>?_)|(refine OkW.sub (gE) ?_;rintro a m hm ⟨ha1,ha2,ha3,ha4⟩)|(refine OkW.sub (DI) ?_;rintro a m hm ⟨ha1,ha2,ha3,ha4⟩)|(refine OkW.sub (DR) ?_;rintro a m hm ⟨ha1,ha2,ha3,ha4⟩)|(refine OkW.subL (rI H _ _ _ _ _ _) ?_;rintro a m hm ⟨ha1,ha2⟩ hl)|(refine OkW.sub (H.p _ _ _ Dl) ?_;rintro a m hm ⟨ha1,ha2,ha3,ha4⟩)|exact gE.up (Cf)|exact DI.up (Cf)|exact (qJ Ch).up (Cf)|refine OkW.up (H.t _ _ _ _ ?_) (Cf)|refine OkW.ok Cf ?_)
   all_goals first|exact ((GC En ‹_› Cf (C' _)).low Cf).wide (Cf)|exact GC En ‹_› Cf (Cf)|exact rB Ch Cf (Cf)|(show ttF _ _ _;simp only [ttF])|skip
   all_goals (try simp only [TT,UB,iA,vA,yD,TD,Ao,Al])
   all_goals (try and_intros)
   all_goals first|assumption|omega|decide|exact .inl trivial|exact .inl rfl|exact iA.wide (iA.low ‹_› Cf) (Cf)|exact iA.wide (iA.low (iA.word (k:=0) ‹_› (.inl Cf)) Cf) (Cf)|(split <;> decide)|skip
 | namesMore acc=>exact dO H n g hf
 | union=>exact (lJ H (acc:=[]) n g (lo:=n) (C' _)).lo hf
 | unionMore acc=>exact lJ H n g hf
 | row fr=>exact fun a m e=>by obtain⟨q1,q2⟩:=fY H n hf.2 a m e;exact⟨q1,q2.low hf.1⟩
 | members kind o=>exact (LQ H hf.1 n g).lo hf.2
 | typeName=>exact (gP H n g).lo hf
 | exprs=>exact (OkW.sub (H.p .expr n g (C' _)) (fun x m hm hx=>OkW.up (H.t (.exprsMore [x]) m g n ⟨hx.2.1,I9,hx.1,hx.2.2.2⟩) hm)).lo hf
 | exprsMore acc=>exact AN H n g hf
 | types=>exact (OkW.sub (H.p .typ n g (C' _)) (fun x m hm hx=>OkW.up (H.t (.typesMore [x]) m g n ⟨hx.2.1,I9,hx.1,hx.2.2.2⟩) hm)).lo hf
 | typesMore acc=>exact UN H n g hf
 | expr=>exact (H.p (.binary 1) n g (C' _)).lo hf
 | binary least=>exact (OkW.sub (H.p .unary n g (C' _)) (fun x m hm hx=>OkW.up (H.t (.binMore least n x) m g n ⟨C' _,hx.1,hx.2.1,hx.2.2.2⟩) hm)).lo hf
 | binMore least fr x=>exact PR H hf.1 hf.2.1 hf.2.2.1 n hf.2.2.2 g
 | primary=>exact (OkW.sub (H.p .operand n g (C' _)) (fun x m hm hx=>OkW.up (H.t (.primMore n x) m g n ⟨C' _,hx.1,hx.2.1,hx.2.2.2⟩) hm)).lo hf
 | primMore fr x=>exact mP H hf.1 hf.2.1 hf.2.2.1 n hf.2.2.2 g
 | dot fr x=>exact bY H hf.1 hf.2.1 hf.2.2.1 n hf.2.2.2 g
 | call fr x=>exact lX H hf.1 hf.2.1 hf.2.2.1 n hf.2.2.2 g
 | index fr x=>exact GU H hf.1 hf.2.1 hf.2.2.1 n hf.2.2.2 g
 | indexMore fr x acc=>exact aO H hf.1 hf.2.1 hf.2.2.1 n hf.2.2.2 g
 | slice fr x lo2=>exact sU H hf.1 hf.2.1 hf.2.2.1 hf.2.2.2.1 hf.2.2.2.2.1 n hf.2.2.2.2.2 g
 | stmts=>exact (H.t (.stmtsMore []) n false n (C' n)).lo hf
 | stmtsMore acc=>exact yO H n g hf
 | started=>exact (dR H n g).lo hf
 | simple=>exact (OkW.sub (H.p .exprs n g (C' _)) (fun x m hm hx=>OkW.up (H.t (.rest n x) m g n ⟨C' _,hx.1,hx.2.1,hx.2.2.2⟩) hm)).lo hf
 | rest fr left=>exact uX H hf.1 hf.2.1 hf.2.2.1 n hf.2.2.2 g
 | ifs=>exact (uY H n g).lo hf
 | switches=>exact (NP H n g).lo hf
 | clauses kind sort=>exact (FQ H hf.1 n).lo hf.2
 | clausesMore kind sort acc=>exact CL H hf.1 n g hf.2
 | cased sort =>
  show OkW n lo (PE S sort n g)
  unfold PE;exact OkW.ite (fun _=>(H.p .exprs n g (C' _)).lo hf) (fun _=>OkW.ite (fun _=>(H.p .types n g (C' _)).lo hf) (fun _=>(H.p .simple n g (C' _)).lo hf))
 | fors=>exact (tW H n g).lo hf
 | overall fr word left=>exact ER H hf.1 hf.2.1 hf.2.2.1 n hf.2.2.2.1 hf.2.2.2.2 g
 | _ =>
   refine OkW.lo ?_ hf;have haf:=PF E [60,45] (n+1);simp only [DF,uB,NB,XD,XC,RD,OD,tI,WE,kG,FE,PC,OB,QC,QE,EE,ZC,lC,oC,UD,dD,CE,LB,IB,fnB,xE,mC,oA,mA,PA,zA]
   repeat' (first|exact OkW.bad|refine OkW.ite (fun _=>?_) (fun _=>?_)|refine OkW.want (fun m hm=>?_)|(refine OkW.sub (gE) ?_;rintro a m hm ⟨ha1,ha2,ha3,ha4⟩)|(refine OkW.sub (DI) ?_;rintro a m hm ⟨ha1,ha2,ha3,ha4⟩)|(refine OkW.sub (DR) ?_;rintro a m hm ⟨ha1,ha2,ha3,ha4⟩)|(refine OkW.subL (rI H _ _ _ _ _ _) ?_;rintro a m hm ⟨ha1,ha2⟩ hl)|(refine OkW.sub (H.p _ _ _ Dl) ?_;rintro a m hm ⟨ha1,ha2,ha3,ha4⟩)|exact gE.up (Cf)|exact DI.up (Cf)|exact (qJ Ch).up (Cf)|refine OkW.up (H.t _ _ _ _ ?_) (Cf)|refine OkW.ok Cf ?_)
   all_goals first|exact ((GC En ‹_› Cf (C' _)).low Cf).wide (Cf)|exact GC En ‹_› Cf (Cf)|exact rB Ch Cf (Cf)|(show ttF _ _ _;simp only [ttF])|skip
   all_goals (try simp only [TT,UB,iA,vA,yD,TD,Ao,Al])
   all_goals (try and_intros)
   all_goals first|assumption|omega|decide|exact .inl trivial|exact .inl rfl|exact iA.wide (iA.low ‹_› Cf) (Cf)|exact iA.wide (iA.low (iA.word (k:=0) ‹_› (.inl Cf)) Cf) (Cf)|(split <;> decide)|skip
theorem pS (E:Env):∀ k,TOk (kA E k)
 | 0=>⟨fun _ _ _ _ _=>fun _ _ h=>C4,fun _ _ _ _ _ _ _ _ _ _=>fun _ _ h=>C4⟩
 | k+1=>VW (pS E k)
end
