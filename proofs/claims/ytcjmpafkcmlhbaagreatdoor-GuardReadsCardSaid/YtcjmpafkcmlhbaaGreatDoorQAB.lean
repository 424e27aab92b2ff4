import Derived.Test.YtcjmpafkcmlhbaaGreatDoorQAA
namespace Go.Proofs.YtcjmpafkcmlhbaaGreatDoor
set_option linter.all false
set_option maxHeartbeats 40000000
set_option maxRecDepth 100000
section
variable {E:Env}{S:Self}{k:Nat}
theorem ite_andThen {α β:Type}{c:Prop} [Decidable c] {a b:R α}{f:α→Nat→R β}:(if c then a else b).andThen f=if c then a.andThen f else b.andThen f:=by
 by_cases h:c
 ·rw [if_pos h,if_pos h]
 ·rw [if_neg h,if_neg h]
theorem ok_andThen {α β:Type}{a:α}{n:Nat}{f:α→Nat→R β}:(R.ok a n).andThen f=f a n:=rfl
theorem bad_andThen {α β:Type}{n:Nat}{f:α→Nat→R β}:(R.bad n).andThen f=R.bad n:=rfl
theorem andThen_assoc {α β γ:Type}{r:R α}{f:α→Nat→R β}{g:β→Nat→R γ}:(r.andThen f).andThen g=r.andThen fun a n=>(f a n).andThen g:=by
 cases r <;> rfl
theorem bl:(∀ b:Bool,(b||false)=b)∧(∀ b:Bool,(false||b)=b)∧(∀ b:Bool,(b||true)=true)∧(∀ b:Bool,(true||b)=true)∧(∀ b:Bool,(b&&true)=b)∧(∀ b:Bool,(true&&b)=b)∧(∀ b:Bool,(b&&false)=false)∧(∀ b:Bool,(false&&b)=false)∧(!true)=false∧(!false)=true∧(false=true)=False:=by
 and_intros <;> simp
theorem bs:((∀ b:Bool,(b||false)=b)∧(∀ b:Bool,(false||b)=b)∧(∀ b:Bool,(b||true)=true)∧(∀ b:Bool,(true||b)=true)∧(∀ b:Bool,(b&&true)=b)∧(∀ b:Bool,(true&&b)=b)∧(∀ b:Bool,(b&&false)=false)∧(∀ b:Bool,(false&&b)=false)∧(!true)=false∧(!false)=true∧(false=true)=False) ∧
  (∀ (α:Type) (_:Decidable True) (a b:α),(if True then a else b)=a)∧(∀ (α:Type) (_:Decidable False) (a b:α),(if False then a else b)=b)∧(∀ (α β:Type) (a:α) (n:Nat) (f:α→Nat→R β),(R.ok a n).andThen f=f a n)∧(∀ (α β:Type) (n:Nat) (f:α→Nat→R β),(R.bad n).andThen f=R.bad n) ∧
  (∀ (α β:Type) (c:Prop) (_:Decidable c) (a b:R α) (f:α→Nat→R β),(if c then a else b).andThen f=if c then a.andThen f else b.andThen f)∧(∀ (α β γ:Type) (r:R α) (f:α→Nat→R β) (g:β→Nat→R γ),(r.andThen f).andThen g=r.andThen fun a n=>(f a n).andThen g) :=
 ⟨bl,fun _ _ _ _=>if_pos trivial,fun _ _ _ _=>if_neg id,fun _ _ _ _ _=>rfl,fun _ _ _ _=>rfl,fun _ _ _ _ _ _ _=>ite_andThen,fun _ _ _ _ _ _=>andThen_assoc⟩
theorem name_then {β:Type}{n N lo:Nat}{f:Tr→Nat→R β} (h:∀ t,E.named n=true→Good N lo (f t (n+1))):Good N lo ((nameT E n).andThen f):=by
 unfold nameT leaf
 rw [ite_andThen]
 exact Good.ite (fun hc=>h _ hc) (fun _=>Good.bad)
theorem pre_le {f:F}{n:Nat} (hs:strict f=false) (h:n≤E.l.length) (ho:okF f=true:=by rfl):pre E f n:=by
 unfold pre;rw [hs,if_neg (by decide)];exact⟨ho,h⟩
theorem pre_lt {f:F}{n:Nat} (h:n < E.l.length) (ho:okF f=true:=by rfl):pre E f n:=by
 refine⟨ho,?_⟩
 split
 ·exact h
 ·omega
theorem low_more {f:F}{n m:Nat} (hs:lazy' f=false) (h:low f n≤m):n+1≤m:=by
 unfold low at h;rw [hs,if_neg (by decide)] at h;exact h
theorem low_same {f:F}{n m:Nat} (h:low f n≤m):n≤m:=by
 unfold low at h;split at h <;> omega
theorem low_ge {f:F}{n lo:Nat} (h:lo≤n):lo≤low f n:=by
 unfold low;split <;> omega
theorem low_more' {f:F}{n:Nat} (hs:lazy' f=false):low f n=n+1:=by
 unfold low;rw [hs,if_neg (by decide)]
theorem or_lt {n:Nat}{x:UInt8}{w:List UInt8}{b:Bool} (hb:b=true→n < E.l.length) (h:(b||E.is n (x::w))=true):n < E.l.length:=by
 rcases Bool.or_eq_true _ _ ▸ h with h|h
 ·exact hb h
 ·exact is_lt h
theorem or2_lt {n:Nat}{x y:UInt8}{v w:List UInt8} (h:(E.is n (x::v)||E.is n (y::w))=true):n < E.l.length:=or_lt is_lt h
theorem or3_lt {n:Nat}{x y z:UInt8}{u v w:List UInt8} (h:(E.is n (x::u)||E.is n (y::v)||E.is n (z::w))=true):n < E.l.length:=or_lt or2_lt h
theorem or4_lt {n:Nat}{x y z a:UInt8}{u v w p:List UInt8} (h:(E.is n (x::u)||E.is n (y::v)||E.is n (z::w)||E.is n (a::p))=true):n < E.l.length:=or_lt or3_lt h
theorem or5_lt {n:Nat}{x y z a b:UInt8}{u v w p q:List UInt8} (h:(E.is n (x::u)||E.is n (y::v)||E.is n (z::w)||E.is n (a::p)||E.is n (b::q))=true):n < E.l.length:=or_lt or4_lt h
theorem and_lt {n:Nat}{x:UInt8}{w:List UInt8}{b:Bool} (h:(b&&E.is n (x::w))=true):n < E.l.length:=is_lt ((Bool.and_eq_true _ _ ▸ h).2)
theorem and_lt' {n:Nat}{x:UInt8}{w:List UInt8}{b:Bool} (h:(E.is n (x::w)&&b)=true):n < E.l.length:=is_lt ((Bool.and_eq_true _ _ ▸ h).1)
theorem literal_lt {n:Nat} (h:E.literal n=true):n < E.l.length:=by
 apply Decidable.byContradiction
 intro hn
 rw [Env.literal,kind_nil (by omega)] at h
 cases h
theorem assigns_lt {n:Nat} (h:assigns (E.word n)=true):n < E.l.length:=by
 apply Decidable.byContradiction
 intro hn
 rw [word_nil (by omega)] at h
 cases h
theorem level_lt {n least:Nat} (hl:1≤least) (h:¬ levelW (E.word n) < least):n < E.l.length:=by
 apply Decidable.byContradiction
 intro hn
 rw [word_nil (by omega)] at h
 have:levelW []=0:=rfl
 omega
theorem want_after (x:UInt8) (w:List UInt8) (y:UInt8) (v:List UInt8) (n:Nat):Good E.l.length (n+1) (want E (x::w) (after E (y::v) n)):=by
 refine (want_good x w _).low ?_
 unfold after
 split <;> omega
theorem lt_of_named {n:Nat} (h:E.named n=true):n < E.l.length:=by
 apply Decidable.byContradiction
 intro hn
 rw [named_nil (by omega)] at h
 cases h
theorem indexMore_good (h:Enough E S k) (n:Nat) (fr:Nat) (x:Tr) (acc:List Tr) (g:Bool) (hn:n≤E.l.length) (hk:20*(E.l.length - n)+1 < k+1):Good E.l.length (n+1) (indexMoreB E S fr x acc n g):=by
 unfold indexMoreB
 refine Good.ite (fun hc=>?_) (fun _=>?_)
 ·have hx:=and_lt' hc
  refine Good.andThen (h.t .expr (n+1) g (pre_le rfl (by omega)) (by simp only [rk];omega)) (fun y m h1 h2=>?_)
  replace h1:=low_more rfl h1
  exact (h.t (.indexMore fr x (acc++[y])) m g (pre_le rfl (by omega)) (by simp only [rk];omega)).low (low_ge (by omega))
 ·refine Good.andThen (want_after _ _ _ _ _) (fun _ m h1 h2=>Good.ok h1 h2)
theorem switchTail_good (h:Enough E S k) (n:Nat) (fr:Nat) (first:Tr) (s:Option Tr) (tag:Tr) (g:Bool) (hn:n≤E.l.length) (hk:20*(E.l.length - n)+10 < k+1):Good E.l.length (n+1) (switchTail E S fr first s tag n g):=by
 unfold switchTail only
 try simp only [ite_andThen,ok_andThen,bad_andThen,andThen_assoc]
 repeat' first
  | exact Good.bad
  | (refine Good.ok ?_ ?_ <;> omega)
  | rw [ok_andThen]
  | rw [bad_andThen]
  | exact (name_good _).low (by omega)
  | exact (str_good _).low (by omega)
  | (refine Good.ite (fun hc=>?_) (fun hc=>?_) <;> first|(have hx:=is_lt hc)|(have hx:=or2_lt hc)|(have hx:=or3_lt hc)|(have hx:=or4_lt hc)|(have hx:=or5_lt hc)|(have hx:=and_lt hc)|(have hx:=and_lt' hc)|(have hx:=literal_lt hc)|(have hx:=assigns_lt hc)|skip)
  | (refine Good.andThen (want_good _ _ _) (fun _ m h1 h2=>?_))
  | (refine name_then (fun _ hc=>?_);have hx:=lt_of_named hc)
  | (refine Good.andThen (str_good _) (fun _ m h1 h2=>?_))
  | (refine Good.andThen (tag_good (by omega)) (fun _ m h1 h2=>?_))
  | (refine Good.andThen (rows_good h _ _ _ _ _ _ _ _ _ (by omega)) (fun _ m h1 h2=>?_))
  | (refine Good.andThen (h.t _ _ _ (by first|exact pre_le rfl (by omega)|exact pre_lt (by omega)) (by simp only [rk];omega)) (fun _ m h1 h2=>?_);(first|replace h1:=low_more rfl h1|replace h1:=low_same h1))
  | (refine Good.low (h.t _ _ _ (by first|exact pre_le rfl (by omega)|exact pre_lt (by omega)) (by simp only [rk];omega)) ?_;first|exact low_ge (by omega)|(rw [low_more' rfl];omega))
  | (split <;> first|(rename_i hc;have hx:=is_lt hc)|skip)
theorem switchSecond_good (h:Enough E S k) (n:Nat) (fr:Nat) (first:Tr) (g:Bool) (hn:n≤E.l.length) (hk:20*(E.l.length - n)+10 < k+1):Good E.l.length (n+1) (switchSecond E S fr first n g):=by
 unfold switchSecond switchTail only
 try simp only [ite_andThen,ok_andThen,bad_andThen,andThen_assoc]
 repeat' first
  | exact Good.bad
  | (refine Good.ok ?_ ?_ <;> omega)
  | rw [ok_andThen]
  | rw [bad_andThen]
  | exact (name_good _).low (by omega)
  | exact (str_good _).low (by omega)
  | (refine Good.ite (fun hc=>?_) (fun hc=>?_) <;> first|(have hx:=is_lt hc)|(have hx:=or2_lt hc)|(have hx:=or3_lt hc)|(have hx:=or4_lt hc)|(have hx:=or5_lt hc)|(have hx:=and_lt hc)|(have hx:=and_lt' hc)|(have hx:=literal_lt hc)|(have hx:=assigns_lt hc)|skip)
  | (refine Good.andThen (want_good _ _ _) (fun _ m h1 h2=>?_))
  | (refine name_then (fun _ hc=>?_);have hx:=lt_of_named hc)
  | (refine Good.andThen (str_good _) (fun _ m h1 h2=>?_))
  | (refine Good.andThen (tag_good (by omega)) (fun _ m h1 h2=>?_))
  | (refine Good.andThen (rows_good h _ _ _ _ _ _ _ _ _ (by omega)) (fun _ m h1 h2=>?_))
  | (refine Good.andThen (h.t _ _ _ (by first|exact pre_le rfl (by omega)|exact pre_lt (by omega)) (by simp only [rk];omega)) (fun _ m h1 h2=>?_);(first|replace h1:=low_more rfl h1|replace h1:=low_same h1))
  | (refine Good.low (h.t _ _ _ (by first|exact pre_le rfl (by omega)|exact pre_lt (by omega)) (by simp only [rk];omega)) ?_;first|exact low_ge (by omega)|(rw [low_more' rfl];omega))
  | (split <;> first|(rename_i hc;have hx:=is_lt hc)|skip)
theorem switches_good (h:Enough E S k) (n:Nat) (g:Bool) (hn:n < E.l.length) (hk:20*(E.l.length - n)+1 < k+1):Good E.l.length (n+1) (switchesB E S n g):=by
 unfold switchesB
 refine Good.ite (fun hc=>?_) (fun _=>Good.ite (fun hc=>?_) (fun _=>?_))
 ·have hx:=is_lt hc
  exact (switchTail_good h (n+1) _ _ _ _ g (by omega) (by omega)).low (by omega)
 ·have hx:=is_lt hc
  exact (switchSecond_good h (n+2) _ _ g (by omega) (by omega)).low (by omega)
 ·refine Good.andThen (h.t _ _ _ (pre_le rfl (by omega)) (by simp only [rk];omega)) (fun s m h1 h2=>?_)
  replace h1:=low_more rfl h1
  refine Good.ite (fun hc=>?_) (fun _=>?_)
  ·have hx:=is_lt hc
   exact (switchSecond_good h (m+1) _ _ g (by omega) (by omega)).low (by omega)
  ·exact (switchTail_good h m _ _ _ _ g (by omega) (by omega)).low (by omega)
theorem binMore_good (h:Enough E S k) (n:Nat) (least fr:Nat) (x:Tr) (g:Bool) (hl:1≤least) (hn:n≤E.l.length) (hk:20*(E.l.length - n)+1 < k+1):Good E.l.length n (binMoreB E S least fr x n g):=by
 unfold binMoreB
 refine Good.ite (fun _=>Good.ok (Nat.le_refl _) hn) (fun hc=>?_)
 have hx:=level_lt hl hc
 refine Good.andThen (h.t (.binary (levelW (E.word n)+1)) (n+1) g (pre_le rfl (by omega) (show decide (1≤levelW (E.word n)+1)=true from decide_eq_true (by omega))) (by simp only [rk];omega)) (fun y m h1 h2=>?_)
 replace h1:=low_more rfl h1
 exact (h.t (.binMore least fr _) m g (pre_le rfl (by omega) (show decide (1≤least)=true from decide_eq_true hl)) (by simp only [rk];omega)).low (low_ge (by omega))
theorem rowsB_good (h:Enough E S k) (a:UInt8) (mk:List UInt8) (b:UInt8) (s:List UInt8) (o:One) (acc:List Tr) (word:Int) (n:Nat) (g:Bool) (hn:n≤E.l.length) (hk:20*(E.l.length - n)+11 < k+1):Good E.l.length n (rowsB E S (a::mk) (b::s) o acc word n g):=by
 unfold rowsB
 refine Good.ite (fun _=>Good.ok (Nat.le_refl _) hn) (fun _=>?_)
 have tail:∀ (p:Tr × Int) (m:Nat),n+1≤m→m≤E.l.length→Good E.l.length n (if E.is m (b::s) then S.l (a::mk) (b::s) o (acc++[p.1]) p.2 m g else (want E (a::mk) m).andThen fun _ n2=>S.l (a::mk) (b::s) o (acc++[p.1]) p.2 n2 g):=by
  intro p m h1 h2
  refine Good.ite (fun _=>(h.l _ _ _ _ _ _ _ _ _ h2 (by omega)).low (by omega)) (fun _=>?_)
  refine Good.andThen (want_good _ _ _) (fun _ m2 h3 h4=>?_)
  exact (h.l _ _ _ _ _ _ _ _ _ h4 (by omega)).low (by omega)
 by_cases ho:o=.call
 ·subst ho
  simp only []
  refine Good.andThen (lo:=n+1) ?_ (fun p m h1 h2=>tail p m h1 h2)
  refine Good.ite (fun _=>Good.bad) (fun _=>?_)
  refine Good.andThen (h.t .expr n g (pre_le rfl hn) (by simp only [rk];omega)) (fun x m h1 h2=>?_)
  replace h1:=low_more rfl h1
  exact Good.ite (fun hc=>Good.ok (by omega) (by have:=is_lt hc;omega)) (fun _=>Good.ok h1 h2)
 ·have e:∀ r1 r2:R (Tr × Int),(match o with|.call=>r1|_=>r2)=r2:=by intro r1 r2;cases o <;> first|rfl|exact absurd rfl ho
  have hone:Good E.l.length (n+1) ((S.t (.one o) n g).andThen fun x n1=>(R.ok (x,word) n1:R (Tr × Int))):=by
   refine Good.andThen (h.t (.one o) n g (pre_le rfl hn) (by simp only [rk];omega)) (fun x m h1 h2=>?_)
   exact Good.ok (low_more rfl h1) h2
  refine Good.andThen (lo:=n+1) ?_ (fun p m h1 h2=>tail p m h1 h2)
  cases o <;> first|exact hone|exact absurd rfl ho
end
end Go.Proofs.YtcjmpafkcmlhbaaGreatDoor
