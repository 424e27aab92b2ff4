import Derived.Test.YtcjmpafkcmlhbaaGreatDoorQAA
namespace Go.Proofs.YtcjmpafkcmlhbaaGreatDoor
set_option linter.all false
set_option maxHeartbeats 40000000
set_option maxRecDepth 100000
section
variable {E:Env}{S:AB}{k:Nat}
theorem oA {α β:Type}{c:Prop} [Decidable c] {a b:R α}{f:α→Nat→R β}:(if c then a else b).andThen f=if c then a.andThen f else b.andThen f:=by
 by_cases h:c
 ·rw [if_pos h,if_pos h]
 ·rw [if_neg h,if_neg h]
theorem mA {α β:Type}{a:α}{n:Nat}{f:α→Nat→R β}:(R.ok a n).andThen f=f a n:=rfl
theorem PA {α β:Type}{n:Nat}{f:α→Nat→R β}:(R.bad n).andThen f=R.bad n:=rfl
theorem zA {α β γ:Type}{r:R α}{f:α→Nat→R β}{g:β→Nat→R γ}:(r.andThen f).andThen g=r.andThen fun a n=>(f a n).andThen g:=by
 cases r <;> rfl
theorem bl:(∀ b:Bool,(b||false)=b)∧(∀ b:Bool,(false||b)=b)∧(∀ b:Bool,(b||true)=true)∧(∀ b:Bool,(true||b)=true)∧(∀ b:Bool,(b&&true)=b)∧(∀ b:Bool,(true&&b)=b)∧(∀ b:Bool,(b&&false)=false)∧(∀ b:Bool,(false&&b)=false)∧(!true)=false∧(!false)=true∧(false=true)=False:=by
 and_intros <;> simp
theorem bs:((∀ b:Bool,(b||false)=b)∧(∀ b:Bool,(false||b)=b)∧(∀ b:Bool,(b||true)=true)∧(∀ b:Bool,(true||b)=true)∧(∀ b:Bool,(b&&true)=b)∧(∀ b:Bool,(true&&b)=b)∧(∀ b:Bool,(b&&false)=false)∧(∀ b:Bool,(false&&b)=false)∧(!true)=false∧(!false)=true∧(false=true)=False) ∧
  (∀ (α:Type) (_:Decidable True) (a b:α),(if True then a else b)=a)∧(∀ (α:Type) (_:Decidable False) (a b:α),(if False then a else b)=b)∧(∀ (α β:Type) (a:α) (n:Nat) (f:α→Nat→R β),(R.ok a n).andThen f=f a n)∧(∀ (α β:Type) (n:Nat) (f:α→Nat→R β),(R.bad n).andThen f=R.bad n) ∧
  (∀ (α β:Type) (c:Prop) (_:Decidable c) (a b:R α) (f:α→Nat→R β),(if c then a else b).andThen f=if c then a.andThen f else b.andThen f)∧(∀ (α β γ:Type) (r:R α) (f:α→Nat→R β) (g:β→Nat→R γ),(r.andThen f).andThen g=r.andThen fun a n=>(f a n).andThen g) :=
 ⟨bl,fun _ _ _ _=>if_pos trivial,fun _ _ _ _=>if_neg id,fun _ _ _ _ _=>rfl,fun _ _ _ _=>rfl,fun _ _ _ _ _ _ _=>oA,fun _ _ _ _ _ _=>zA⟩
theorem jI {β:Type}{n N lo:Nat}{f:Tr→Nat→R β} (h:∀ t,E.named n=true→xA N lo (f t (n+1))):xA N lo ((LC E n).andThen f):=by
 unfold LC leaf;rw [oA];exact xA.ite (fun hc=>h _ hc) (fun _=>xA.bad)
theorem DA {f:F}{n:Nat} (hs:NF f=false) (h:n≤E.l.length) (ho:okF f=true:=by rfl):pre E f n:=by
 unfold pre;rw [hs,if_neg (by decide)];exact⟨ho,h⟩
theorem SF {f:F}{n:Nat} (h:n < E.l.length) (ho:okF f=true:=by rfl):pre E f n:=by
 refine⟨ho,?_⟩;split
 ·exact h
 ·omega
theorem UC {f:F}{n m:Nat} (hs:iQ f=false) (h:low f n≤m):n+1≤m:=by
 unfold low at h;rw [hs,if_neg (by decide)] at h;exact h
theorem aJ {f:F}{n m:Nat} (h:low f n≤m):n≤m:=by
 unfold low at h;split at h <;> omega
theorem UF {f:F}{n lo:Nat} (h:lo≤n):lo≤low f n:=by
 unfold low;split <;> omega
theorem bI {f:F}{n:Nat} (hs:iQ f=false):low f n=n+1:=by
 unfold low;rw [hs,if_neg (by decide)]
theorem CS {n:Nat}{x:UInt8}{w:List UInt8}{b:Bool} (hb:b=true→n < E.l.length) (h:(b||E.is n (x::w))=true):n < E.l.length:=by
 rcases Bool.or_eq_true _ _ ▸ h with h|h
 ·exact hb h
 ·exact gA h
theorem vL {n:Nat}{x y:UInt8}{v w:List UInt8} (h:(E.is n (x::v)||E.is n (y::w))=true):n < E.l.length:=CS gA h
theorem EL {n:Nat}{x y z:UInt8}{u v w:List UInt8} (h:(E.is n (x::u)||E.is n (y::v)||E.is n (z::w))=true):n < E.l.length:=CS vL h
theorem zL {n:Nat}{x y z a:UInt8}{u v w p:List UInt8} (h:(E.is n (x::u)||E.is n (y::v)||E.is n (z::w)||E.is n (a::p))=true):n < E.l.length:=CS EL h
theorem vO {n:Nat}{x y z a b:UInt8}{u v w p q:List UInt8} (h:(E.is n (x::u)||E.is n (y::v)||E.is n (z::w)||E.is n (a::p)||E.is n (b::q))=true):n < E.l.length:=CS zL h
theorem lO {n:Nat}{x:UInt8}{w:List UInt8}{b:Bool} (h:(b&&E.is n (x::w))=true):n < E.l.length:=gA ((Bool.and_eq_true _ _ ▸ h).2)
theorem OJ {n:Nat}{x:UInt8}{w:List UInt8}{b:Bool} (h:(E.is n (x::w)&&b)=true):n < E.l.length:=gA ((Bool.and_eq_true _ _ ▸ h).1)
theorem cH {n:Nat} (h:E.literal n=true):n < E.l.length:=by
 apply Decidable.byContradiction;intro hn;rw [Env.literal,FG (by omega)] at h;cases h
theorem YG {n:Nat} (h:assigns (E.word n)=true):n < E.l.length:=by
 apply Decidable.byContradiction;intro hn;rw [AG (by omega)] at h;cases h
theorem zV {n least:Nat} (hl:1≤least) (h:¬ DD (E.word n) < least):n < E.l.length:=by
 apply Decidable.byContradiction;intro hn;rw [AG (by omega)] at h;have:DD []=0:=rfl;omega
theorem vR (x:UInt8) (w:List UInt8) (y:UInt8) (v:List UInt8) (n:Nat):xA E.l.length (n+1) (want E (x::w) (PB E (y::v) n)):=by
 refine (aF x w _).low ?_;unfold PB;split <;> omega
theorem dG {n:Nat} (h:E.named n=true):n < E.l.length:=by
 apply Decidable.byContradiction;intro hn;rw [pI (by omega)] at h;cases h
theorem gL (h:vG E S k) (n:Nat) (fr:Nat) (x:Tr) (acc:List Tr) (g:Bool) (hn:n≤E.l.length) (hk:20*(E.l.length - n)+1 < k+1):xA E.l.length (n+1) (fC E S fr x acc n g):=by
 unfold fC;refine xA.ite (fun hc=>?_) (fun _=>?_)
 ·have hx:=OJ hc;refine xA.andThen (h.t .expr (n+1) g (DA rfl (by omega)) (by simp only [rk];omega)) (fun y m h1 h2=>?_);replace h1:=UC rfl h1;exact (h.t (.indexMore fr x (acc++[y])) m g (DA rfl (by omega)) (by simp only [rk];omega)).low (UF (by omega))
 ·refine xA.andThen (vR _ _ _ _ _) (fun _ m h1 h2=>xA.ok h1 h2)
theorem tH (h:vG E S k) (n:Nat) (fr:Nat) (first:Tr) (s:Option Tr) (tag:Tr) (g:Bool) (hn:n≤E.l.length) (hk:20*(E.l.length - n)+10 < k+1):xA E.l.length (n+1) (qB E S fr first s tag n g):=by
 unfold qB only
 try simp only [oA,mA,PA,zA]
 repeat' first
  | exact xA.bad
  | (refine xA.ok ?_ ?_ <;> omega)
  | rw [mA]
  | rw [PA]
  | exact (gI _).low (by omega)
  | exact (TE _).low (by omega)
  | (refine xA.ite (fun hc=>?_) (fun hc=>?_) <;> first|(have hx:=gA hc)|(have hx:=vL hc)|(have hx:=EL hc)|(have hx:=zL hc)|(have hx:=vO hc)|(have hx:=lO hc)|(have hx:=OJ hc)|(have hx:=cH hc)|(have hx:=YG hc)|skip)
  | (refine xA.andThen (aF _ _ _) (fun _ m h1 h2=>?_))
  | (refine jI (fun _ hc=>?_);have hx:=dG hc)
  | (refine xA.andThen (TE _) (fun _ m h1 h2=>?_))
  | (refine xA.andThen (YI (by omega)) (fun _ m h1 h2=>?_))
  | (refine xA.andThen (eI h _ _ _ _ _ _ _ _ _ (by omega)) (fun _ m h1 h2=>?_))
  | (refine xA.andThen (h.t _ _ _ (by first|exact DA rfl (by omega)|exact SF (by omega)) (by simp only [rk];omega)) (fun _ m h1 h2=>?_);(first|replace h1:=UC rfl h1|replace h1:=aJ h1))
  | (refine xA.low (h.t _ _ _ (by first|exact DA rfl (by omega)|exact SF (by omega)) (by simp only [rk];omega)) ?_;first|exact UF (by omega)|(rw [bI rfl];omega))
  | (split <;> first|(rename_i hc;have hx:=gA hc)|skip)
theorem aG (h:vG E S k) (n:Nat) (fr:Nat) (first:Tr) (g:Bool) (hn:n≤E.l.length) (hk:20*(E.l.length - n)+10 < k+1):xA E.l.length (n+1) (nB E S fr first n g):=by
 unfold nB qB only
 try simp only [oA,mA,PA,zA]
 repeat' first
  | exact xA.bad
  | (refine xA.ok ?_ ?_ <;> omega)
  | rw [mA]
  | rw [PA]
  | exact (gI _).low (by omega)
  | exact (TE _).low (by omega)
  | (refine xA.ite (fun hc=>?_) (fun hc=>?_) <;> first|(have hx:=gA hc)|(have hx:=vL hc)|(have hx:=EL hc)|(have hx:=zL hc)|(have hx:=vO hc)|(have hx:=lO hc)|(have hx:=OJ hc)|(have hx:=cH hc)|(have hx:=YG hc)|skip)
  | (refine xA.andThen (aF _ _ _) (fun _ m h1 h2=>?_))
  | (refine jI (fun _ hc=>?_);have hx:=dG hc)
  | (refine xA.andThen (TE _) (fun _ m h1 h2=>?_))
  | (refine xA.andThen (YI (by omega)) (fun _ m h1 h2=>?_))
  | (refine xA.andThen (eI h _ _ _ _ _ _ _ _ _ (by omega)) (fun _ m h1 h2=>?_))
  | (refine xA.andThen (h.t _ _ _ (by first|exact DA rfl (by omega)|exact SF (by omega)) (by simp only [rk];omega)) (fun _ m h1 h2=>?_);(first|replace h1:=UC rfl h1|replace h1:=aJ h1))
  | (refine xA.low (h.t _ _ _ (by first|exact DA rfl (by omega)|exact SF (by omega)) (by simp only [rk];omega)) ?_;first|exact UF (by omega)|(rw [bI rfl];omega))
  | (split <;> first|(rename_i hc;have hx:=gA hc)|skip)
theorem BM (h:vG E S k) (n:Nat) (g:Bool) (hn:n < E.l.length) (hk:20*(E.l.length - n)+1 < k+1):xA E.l.length (n+1) (qC E S n g):=by
 unfold qC;refine xA.ite (fun hc=>?_) (fun _=>xA.ite (fun hc=>?_) (fun _=>?_))
 ·have hx:=gA hc;exact (tH h (n+1) _ _ _ _ g (by omega) (by omega)).low (by omega)
 ·have hx:=gA hc;exact (aG h (n+2) _ _ g (by omega) (by omega)).low (by omega)
 ·refine xA.andThen (h.t _ _ _ (DA rfl (by omega)) (by simp only [rk];omega)) (fun s m h1 h2=>?_);replace h1:=UC rfl h1;refine xA.ite (fun hc=>?_) (fun _=>?_)
  ·have hx:=gA hc;exact (aG h (m+1) _ _ g (by omega) (by omega)).low (by omega)
  ·exact (tH h m _ _ _ _ g (by omega) (by omega)).low (by omega)
theorem oO (h:vG E S k) (n:Nat) (least fr:Nat) (x:Tr) (g:Bool) (hl:1≤least) (hn:n≤E.l.length) (hk:20*(E.l.length - n)+1 < k+1):xA E.l.length n (uD E S least fr x n g):=by
 unfold uD;refine xA.ite (fun _=>xA.ok (Nat.le_refl _) hn) (fun hc=>?_);have hx:=zV hl hc;refine xA.andThen (h.t (.binary (DD (E.word n)+1)) (n+1) g (DA rfl (by omega) (show decide (1≤DD (E.word n)+1)=true from decide_eq_true (by omega))) (by simp only [rk];omega)) (fun y m h1 h2=>?_);replace h1:=UC rfl h1;exact (h.t (.binMore least fr _) m g (DA rfl (by omega) (show decide (1≤least)=true from decide_eq_true hl)) (by simp only [rk];omega)).low (UF (by omega))
theorem OR (h:vG E S k) (a:UInt8) (mk:List UInt8) (b:UInt8) (s:List UInt8) (o:One) (acc:List Tr) (word:Int) (n:Nat) (g:Bool) (hn:n≤E.l.length) (hk:20*(E.l.length - n)+11 < k+1):xA E.l.length n (LF E S (a::mk) (b::s) o acc word n g):=by
 unfold LF;refine xA.ite (fun _=>xA.ok (Nat.le_refl _) hn) (fun _=>?_);have tail:∀ (p:Tr × Int) (m:Nat),n+1≤m→m≤E.l.length→xA E.l.length n (if E.is m (b::s) then S.l (a::mk) (b::s) o (acc++[p.1]) p.2 m g else (want E (a::mk) m).andThen fun _ n2=>S.l (a::mk) (b::s) o (acc++[p.1]) p.2 n2 g):=by
  intro p m h1 h2;refine xA.ite (fun _=>(h.l _ _ _ _ _ _ _ _ _ h2 (by omega)).low (by omega)) (fun _=>?_);refine xA.andThen (aF _ _ _) (fun _ m2 h3 h4=>?_);exact (h.l _ _ _ _ _ _ _ _ _ h4 (by omega)).low (by omega)
 by_cases ho:o=.call
 ·subst ho;simp only [];refine xA.andThen (lo:=n+1) ?_ (fun p m h1 h2=>tail p m h1 h2);refine xA.ite (fun _=>xA.bad) (fun _=>?_);refine xA.andThen (h.t .expr n g (DA rfl hn) (by simp only [rk];omega)) (fun x m h1 h2=>?_);replace h1:=UC rfl h1;exact xA.ite (fun hc=>xA.ok (by omega) (by have:=gA hc;omega)) (fun _=>xA.ok h1 h2)
 ·have e:∀ r1 r2:R (Tr × Int),(match o with|.call=>r1|_=>r2)=r2:=by intro r1 r2;cases o <;> first|rfl|exact absurd rfl ho
  have hone:xA E.l.length (n+1) ((S.t (.one o) n g).andThen fun x n1=>(R.ok (x,word) n1:R (Tr × Int))):=by
   refine xA.andThen (h.t (.one o) n g (DA rfl hn) (by simp only [rk];omega)) (fun x m h1 h2=>?_);exact xA.ok (UC rfl h1) h2
  refine xA.andThen (lo:=n+1) ?_ (fun p m h1 h2=>tail p m h1 h2);cases o <;> first|exact hone|exact absurd rfl ho
end
end Go.Proofs.YtcjmpafkcmlhbaaGreatDoor
