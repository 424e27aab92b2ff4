import Derived.Test.YtcjmpafkcmlhbaaGreatDoorQAI
import Derived.Test.YtcjmpafkcmlhbaaGreatDoorQAG
namespace Go.Proofs.YtcjmpafkcmlhbaaGreatDoor
set_option linter.all false
set_option maxHeartbeats 40000000
set_option maxRecDepth 100000
section
open Grd (levL leastL levB lev_bd)
def lvT (E:Env) (t:Tr):Int:=levL t.kind (partW E t.kind t.word)
mutual
def Tg (E:Env):Tr→Prop
 | .mk k wd _ _ ks=>Tgs E k (partW E k wd) 0 ks
def Tgs (E:Env) (k:UInt8) (w:List UInt8) (nth:Nat):List Tr→Prop
 | []=>True
 | t::ts=>leastL k w nth≤lvT E t∧Tg E t∧Tgs E k w (nth+1) ts
end
def TgL (E:Env):List Tr→Prop
 | []=>True
 | x::r=>Tg E x∧TgL E r
variable {E:Env}{S:Self}
theorem TgL.append:∀ {a b:List Tr},TgL E a→TgL E b→TgL E (a++b)
 | [],_,_,h=>h
 | _::_,_,⟨h1,h2⟩,h=>⟨h1,TgL.append h2 h⟩
theorem TgL.snoc {a:List Tr}{t:Tr} (h:TgL E a) (ht:Tg E t):TgL E (a++[t]):=h.append ⟨ht,trivial⟩
theorem lv_pos (t:Tr):1≤lvT E t:=(lev_bd _ _).1
def zeroK (k:UInt8):Bool:=![29,30,31,32,33,34,35,36,37,61].contains k
theorem least0 {k:UInt8} (h:zeroK k=true) (w:List UInt8) (n:Int):leastL k w n=0:=by
 unfold zeroK at h
 simp only [List.contains_cons,List.contains_nil,Bool.or_false,Bool.not_eq_true',Bool.or_eq_false_iff,beq_eq_false_iff_ne] at h
 obtain⟨h1,h2,h3,h4,h5,h6,h7,h8,h9,h10⟩:=h
 unfold leastL
 rw [if_neg h9,if_neg (by simp [h7,h8]),if_neg (by simp [h1,h2,h3,h4,h5,h6]),if_neg h10]
theorem tgs_zero {k:UInt8}{w:List UInt8}:∀ (ks:List Tr) (n:Nat),(∀ m:Nat,n≤m→leastL k w m≤1)→TgL E ks→Tgs E k w n ks
 | [],_,_,_=>by simp [Tgs]
 | x::r,n,h,⟨h1,h2⟩=>by
  have h0:=h n (Nat.le_refl _)
  have:=lv_pos (E:=E) x
  simp only [Tgs]
  exact⟨by omega,h1,tgs_zero r (n+1) (fun m hm=>h m (by omega)) h2⟩
theorem tg0 {k:UInt8}{wd:Int}{f t:Nat}{ks:List Tr} (hz:zeroK k=true) (h:TgL E ks):Tg E (.mk k wd f t ks):=by
 simp only [Tg]
 exact tgs_zero ks 0 (fun m _=>by rw [least0 hz];omega) h
theorem tg7 {k:UInt8}{wd:Int}{f t:Nat}{x:Tr}{r:List Tr} (hk:k=29∨k=30∨k=31∨k=32∨k=33∨k=34) (hx:Tg E x) (h7:7≤lvT E x) (h:TgL E r):Tg E (.mk k wd f t (x::r)):=by
 have hl:∀ (w:List UInt8) (n:Int),leastL k w n=if n=0 then 7 else 0:=fun w n=>by
  unfold leastL
  rw [if_neg (by rcases hk with rfl|rfl|rfl|rfl|rfl|rfl <;> decide),if_neg (by rcases hk with rfl|rfl|rfl|rfl|rfl|rfl <;> decide),if_pos hk]
 simp only [Tg,Tgs]
 refine⟨by rw [hl];exact h7,hx,tgs_zero r 1 (fun m hm=>?_) h⟩
 rw [hl,if_neg (by omega)];omega
theorem tg6 {k:UInt8}{wd:Int}{f t:Nat}{x:Tr} (hk:k=36∨k=35) (hx:Tg E x) (h6:6≤lvT E x):Tg E (.mk k wd f t [x]):=by
 have hl:∀ (w:List UInt8) (n:Int),leastL k w n=6:=fun w n=>by
  unfold leastL
  rw [if_neg (by rcases hk with rfl|rfl <;> decide),if_pos hk]
 simp only [Tg,Tgs,and_true]
 exact⟨by rw [hl];exact h6,hx⟩
theorem tg61 {wd:Int}{f t:Nat}{a b x c:Tr} (ha:Tg E a) (hb:Tg E b) (hx:Tg E x) (h7:7≤lvT E x) (hc:Tg E c):Tg E (.mk 61 wd f t [a,b,x,c]):=by
 have hl:∀ (w:List UInt8) (n:Int),leastL 61 w n=if n=2 then 7 else 0:=fun w n=>rfl
 have:=lv_pos (E:=E) a;have:=lv_pos (E:=E) b;have:=lv_pos (E:=E) c
 simp only [Tg,Tgs,hl,and_true]
 exact⟨by omega,ha,by omega,hb,h7,hx,by omega,hc⟩
theorem lv7 {k:UInt8}{wd:Int}{f t:Nat}{ks:List Tr} (h:(k != 35&&k != 36&&k != 37)=true):7≤lvT E (.mk k wd f t ks):=by
 simp only [Bool.and_eq_true,bne_iff_ne] at h
 obtain⟨⟨h1,h2⟩,h3⟩:=h
 have e:∀ n:Nat,n < 256→k≠UInt8.ofNat n→¬ (k.toNat:Int)=(n:Int):=fun n hn hk e=>hk (UInt8.toNat_inj.1 (by rw [UInt8.toNat_ofNat'];omega))
 show 7≤levL k _
 unfold levL
 rw [if_neg (by have:=e 35 (by decide) h1;have:=e 36 (by decide) h2;omega),if_neg (by have:=e 37 (by decide) h3;omega)]
 omega
theorem lv6 {k:UInt8}{wd:Int}{f t:Nat}{ks:List Tr} (h:k=35∨k=36):6≤lvT E (.mk k wd f t ks):=by
 show 6≤levL k _
 rcases h with rfl|rfl <;> exact Int.le_refl _
theorem op_words {w:List UInt8} (h:1≤levelW w):w∈[[124,124],[38,38],[61,61],[33,61],[60],[60,61],[62],[62,61],[43],[45],[124],[94],[42],[47],[37],[60,60],[62,62],[38],[38,94]]:=by
 unfold levelW at h
 simp only [List.mem_cons,List.not_mem_nil,or_false]
 by_cases h1:w=[124,124]
 ·exact .inl h1
 rw [if_neg h1] at h
 by_cases h2:w=[38,38]
 ·exact .inr (.inl h2)
 rw [if_neg h2] at h
 split at h
 ·rename_i c;rcases c with c|c|c|c|c|c <;> simp [c]
 ·split at h
  ·rename_i c;rcases c with c|c|c|c <;> simp [c]
  ·split at h
   ·rename_i c;rcases c with c|c|c|c|c|c|c <;> simp [c]
   ·omega
def wordsOf (k:UInt8):List (List UInt8) :=
 if k=3∨k=4 then [[105,109,112,111,114,116],[99,111,110,115,116],[118,97,114],[116,121,112,101]]
 else if k=36 then [[43],[45],[33],[94],[38],[60,45]]
 else if k=37 then [[124,124],[38,38],[61,61],[33,61],[60],[60,61],[62],[62,61],[43],[45],[124],[94],[42],[47],[37],[60,60],[62,62],[38],[38,94]]
 else if k=45 then [[99,104,97,110],[60,45]]
 else if k=52 then [[43,43],[45,45]]
 else if k=53 then [[61],[58,61],[43,61],[45,61],[42,61],[47,61],[37,61],[38,61],[124,61],[94,61],[60,60,61],[62,62,61],[38,94,61]]
 else if k=57 then [[98,114,101,97,107],[99,111,110,116,105,110,117,101],[103,111,116,111],[102,97,108,108,116,104,114,111,117,103,104]]
 else if k=5 then [[46]] else if k=7 then [[61]] else if k=15∨k=34 then [[46,46,46]] else if k=66 then [[61],[58,61]] else []
theorem op_lev:∀ w∈([[124,124],[38,38],[61,61],[33,61],[60],[60,61],[62],[62,61],[43],[45],[124],[94],[42],[47],[37],[60,60],[62,62],[38],[38,94]]:List (List UInt8)),levB w 5 0=(levelW w:Int):=by decide +kernel
theorem op_text {n:Nat} (h:1≤levelW (E.word n)):E.text (n:Int)=E.word n:=by
 have h0:E.word n≠[]:=fun e=>by rw [e] at h;exact absurd h (by decide)
 have h9:E.word n≠[59]:=fun e=>by rw [e] at h;exact absurd h (by decide)
 unfold Env.word at h0 h9 ⊢
 unfold Env.text
 rw [if_neg (by omega)] at h0 h9 ⊢
 rw [if_neg (by omega)]
 cases hl:E.l[(n:Int).toNat]? with
 | none=>rfl
 | some t =>
  rw [hl] at h0 h9
  simp only [] at h0 h9 ⊢
  by_cases a:t.kind=9
  ·rw [if_pos a] at h9;exact absurd rfl h9
  ·rw [if_neg a] at h0 ⊢
   by_cases b:t.kind=8∨t.kind=2
   ·rw [if_pos b]
   ·rw [if_neg b] at h0;exact absurd rfl h0
theorem lv37 {n:Nat}{f t:Nat}{ks:List Tr} (h:1≤levelW (E.word n)):lvT E (.mk 37 (n:Int) f t ks)=(levelW (E.word n):Int):=by
 show levL 37 (partW E 37 (n:Int))=_
 have e:partW E 37 (n:Int)=E.word n:=op_text h
 rw [e]
 exact op_lev _ (op_words h)
theorem tg37 {n:Nat}{f t:Nat}{x y:Tr} (h:1≤levelW (E.word n)) (hx:Tg E x) (hy:Tg E y) (h1:(levelW (E.word n):Int)≤lvT E x) (h2:(levelW (E.word n):Int)+1≤lvT E y):Tg E (.mk 37 (n:Int) f t [x,y]):=by
 have e:=lv37 (E:=E) (f:=0) (t:=0) (ks:=[]) h
 have e2:levL 37 (partW E 37 (n:Int))=(levelW (E.word n):Int):=e
 have hl:∀ (w:List UInt8) (n:Int),leastL 37 w n=if n=0 then levL 37 w else if n=1 then levL 37 w+1 else 0:=fun w n=>rfl
 simp only [Tg,Tgs,hl,and_true,e2]
 exact⟨h1,hx,h2,hy⟩
end
section
def OkG (E:Env) (lo:Int) (r:R Tr):Prop:=∀ a m,r=.ok a m→Tg E a∧lo≤lvT E a
def OkH (E:Env) (r:R (List Tr × Int)):Prop:=∀ a m,r=.ok a m→TgL E a.1
variable {E:Env}{S:Self}
theorem OkG.bad {lo:Int}{k:Nat}:OkG E lo (.bad k):=fun _ _ h=>by cases h
theorem OkG.ok {lo:Int}{a:Tr}{m:Nat} (h:Tg E a) (h2:lo≤lvT E a):OkG E lo (.ok a m):=fun _ _ e=>by cases e;exact⟨h,h2⟩
theorem OkG.one {a:Tr}{m:Nat} (h:Tg E a):OkG E 1 (.ok a m):=.ok h (lv_pos a)
theorem OkG.ite {lo:Int}{c:Prop} [Decidable c] {a b:R Tr} (h1:c→OkG E lo a) (h2:¬ c→OkG E lo b):OkG E lo (if c then a else b):=by
 by_cases h:c
 ·rw [if_pos h];exact h1 h
 ·rw [if_neg h];exact h2 h
theorem OkG.up {lo lo':Int}{r:R Tr} (h:OkG E lo' r) (k:lo≤lo'):OkG E lo r:=fun a m e=>⟨(h a m e).1,Int.le_trans k (h a m e).2⟩
theorem OkG.sub {lo lo':Int}{r:R Tr}{f:Tr→Nat→R Tr} (h:OkG E lo' r) (hf:∀ a m,Tg E a→lo'≤lvT E a→OkG E lo (f a m)):OkG E lo (r.andThen f):=by
 cases r with
 | ok a m=>exact hf a m (h a m rfl).1 (h a m rfl).2
 | bad k=>exact OkG.bad
 | out=>exact fun _ _ h=>by cases h
theorem OkG.subL {lo:Int}{r:R (List Tr × Int)}{f:List Tr × Int→Nat→R Tr} (h:OkH E r) (hf:∀ a m,TgL E a.1→OkG E lo (f a m)):OkG E lo (r.andThen f):=by
 cases r with
 | ok a m=>exact hf a m (h a m rfl)
 | bad k=>exact OkG.bad
 | out=>exact fun _ _ h=>by cases h
theorem OkG.want {lo:Int}{w:List UInt8}{n:Nat}{f:Unit→Nat→R Tr} (hf:OkG E lo (f () (n+1))):OkG E lo ((want E w n).andThen f):=by
 unfold Go.Proofs.YtcjmpafkcmlhbaaGreatDoor.want
 split
 ·exact hf
 ·exact OkG.bad
theorem OkH.want {w:List UInt8}{n:Nat}{f:Unit→Nat→R (List Tr × Int)} (hf:OkH E (f () (n+1))):OkH E ((want E w n).andThen f):=by
 unfold Go.Proofs.YtcjmpafkcmlhbaaGreatDoor.want
 split
 ·exact hf
 ·exact fun _ _ h=>by cases h
theorem leaf_g {k:UInt8}{ok:Bool}{n:Nat} (hz:zeroK k=true):OkG E 7 (leaf k ok n):=by
 unfold leaf
 refine OkG.ite (fun _=>OkG.ok (tg0 hz trivial) (lv7 ?_)) (fun _=>OkG.bad)
 unfold zeroK at hz
 simp only [List.contains_cons,List.contains_nil,Bool.or_false,Bool.not_eq_true',Bool.or_eq_false_iff,beq_eq_false_iff_ne] at hz
 obtain⟨_,_,_,_,_,_,h7,h8,h9,_⟩:=hz
 simp [h7,h8,h9]
theorem name_g {n:Nat}:OkG E 7 (nameT E n):=leaf_g (by decide)
theorem str_g {n:Nat}:OkG E 7 (strT E n):=leaf_g (by decide)
theorem none_tg (k:UInt8) (n:Nat):Tg E (noneT k n):=by simp only [noneT,Tg,Tgs]
theorem list_tg {k:UInt8}{ks:List Tr}{n:Nat} (hz:zeroK k=true) (h:TgL E ks):Tg E (listT k ks n):=by
 cases ks with
 | nil=>exact none_tg k n
 | cons a b=>exact tg0 hz h
theorem tag_g {n:Nat}:OkG E 1 (tagT E n):=by unfold tagT;exact OkG.ite (fun _=>str_g.up (by decide)) (fun _=>OkG.one (none_tg _ _))
theorem tgs_mem {k:UInt8}{w:List UInt8}:∀ (ks:List Tr) (n:Nat),Tgs E k w n ks→∀ x∈ks,Tg E x
 | y::r,n,h,x,hx=>by
  simp only [Tgs] at h
  rcases List.mem_cons.1 hx with rfl|hx
  ·exact h.2.1
  ·exact tgs_mem r (n+1) h.2.2 x hx
theorem tg_kid {s x:Tr} (h:Tg E s) (hx:x∈s.kids):Tg E x:=by
 obtain⟨k,w,f,t,ks⟩:=s
 simp only [Tg] at h
 exact tgs_mem ks 0 h x hx
def tgF (E:Env) (n:Nat):F→Prop
 | .fileImports a b=>Tg E a∧TgL E b|.fileDecls a b c=>Tg E a∧Tg E b∧TgL E c
 | .namesMore a|.unionMore a|.exprsMore a|.typesMore a|.stmtsMore a=>TgL E a
 | .binary l=>1≤l∧l≤6
 | .binMore l _ x=>(1≤l∧l≤6)∧Tg E x∧(l:Int)≤lvT E x∧(levelW (E.word n):Int)≤lvT E x
 | .primMore _ x|.dot _ x|.call _ x|.index _ x=>Tg E x∧7≤lvT E x
 | .indexMore _ x a=>Tg E x∧7≤lvT E x∧TgL E a
 | .slice _ x lo=>Tg E x∧7≤lvT E x∧Tg E lo
 | .members k _|.clauses k _=>zeroK k=true
 | .clausesMore k _ a=>zeroK k=true∧TgL E a
 | .rest _ l|.overall _ _ l=>Tg E l
 | _=>True
def loF:F→Int
 | .binary l|.binMore l _ _=>(l:Int)
 | .unary|.typ=>6
 | .operand|.primary|.primMore _ _|.dot _ _|.call _ _|.index _ _|.indexMore _ _ _|.slice _ _ _|.typeName|.row _=>7
 | _=>1
structure GOk (E:Env) (S:Self):Prop where
 t:∀ f n g,tgF E n f→OkG E (loF f) (S.t f n g)
 ty:∀ n g,E.is n [42]=false→OkG E 7 (S.t .typ n g)
 op:∀ l n g,tgF E n (.binary l)→∀ a m,S.t (.binary l) n g=.ok a m→levelW (E.word m) < l
 om:∀ l fr x n g,tgF E n (.binMore l fr x)→∀ a m,S.t (.binMore l fr x) n g=.ok a m→levelW (E.word m) < l
 l:∀ mark shut o acc word n g,TgL E acc→OkH E (S.l mark shut o acc word n g)
theorem rows_g (H:GOk E S) (a b c:List UInt8) (o:One) (n:Nat) (g:Bool):OkH E (rows E S a b c o n g):=by
 unfold rows
 exact OkH.want (H.l _ _ _ _ _ _ _ trivial)
theorem only_g {s:Tr} (h:Tg E s) (n:Nat):OkG E 1 (only s n):=by
 unfold only
 refine OkG.ite (fun _=>?_) (fun _=>OkG.bad)
 split
 ·rename_i x r hx
  exact OkG.one (tg_kid h (by rw [hx];simp))
 ·exact OkG.bad
theorem rest_g (H:GOk E S) {fr:Nat}{left:Tr} (h1:Tg E left) (n:Nat) (g:Bool):OkG E 1 (restB E S fr left n g):=by
 unfold restB
 refine OkG.ite (fun _=>OkG.sub (H.t .exprs _ _ trivial) (fun a m ha _=>OkG.one (tg0 (by decide) ⟨h1,ha,trivial⟩))) (fun _=>?_)
 split
 ·rename_i x hx
  have hs:Tg E x:=tg_kid h1 (by rw [hx];simp)
  refine OkG.ite (fun _=>OkG.one (tg0 (by decide) ⟨hs,trivial⟩)) (fun _=>OkG.ite (fun _=>OkG.sub (H.t .expr _ _ trivial) (fun a m ha _=>OkG.one (tg0 (by decide) ⟨hs,ha,trivial⟩))) (fun _=>OkG.one (tg0 (by decide) ⟨hs,trivial⟩)))
 ·exact OkG.bad
theorem guard_kid {x y:Tr} (h:Tg E x) (hk:x.kind=33) (hy:x.kids=[y]):Tg E y∧7≤lvT E y:=by
 obtain⟨k,w,f,t,ks⟩:=x
 have e1:k=33:=hk
 have e2:ks=[y]:=hy
 subst e1;subst e2
 simp only [Tg,Tgs] at h
 exact⟨h.2.1,h.1⟩
theorem asked_g {s a b:Tr} (h:Tg E s) (he:asked E s=some (a,b)):Tg E a∧Tg E b∧7≤lvT E b:=by
 unfold asked at he
 split at he
 ·rename_i x hk hx
  have hs:Tg E x:=tg_kid h (by rw [hx];simp)
  split at he
  ·rename_i y h33 hy
   cases he
   exact⟨none_tg 0 s.fr,guard_kid hs h33 hy⟩
  ·cases he
 ·rename_i l r hk hx
  have hl:Tg E l:=tg_kid h (by rw [hx];simp)
  have hr:Tg E r:=tg_kid h (by rw [hx];simp)
  split at he
  ·split at he
   ·rename_i c d hc hd
    have h1:Tg E c:=tg_kid hl (by rw [hc];simp)
    have h2:Tg E d:=tg_kid hr (by rw [hd];simp)
    split at he
    ·rename_i hcd
     split at he
     ·rename_i y hy
      cases he
      exact⟨h1,guard_kid h2 hcd.2 hy⟩
     ·cases he
    ·cases he
   ·cases he
  ·cases he
 ·cases he
theorem switchTail_g (H:GOk E S) {fr:Nat}{a t:Tr}{s:Option Tr} (h1:Tg E a) (h2:Tg E t) (h3:∀ x,s=some x→Tg E x) (n:Nat) (g:Bool):OkG E 1 (switchTail E S fr a s t n g):=by
 unfold switchTail
 cases s with
 | none=>exact OkG.sub (H.t (.clauses 62 1) _ _ (show zeroK 62=true from by decide)) (fun c m hc _=>OkG.one (tg0 (by decide) ⟨h1,h2,hc,trivial⟩))
 | some s =>
  have hs:=h3 s rfl
  show OkG E 1 (match asked E s with|some (name,x)=>_|none=>_)
  cases he:asked E s with
  | none=>exact OkG.sub (only_g hs _) (fun t2 m ht _=>OkG.sub (H.t (.clauses 62 1) _ _ (show zeroK 62=true from by decide)) (fun c m hc _=>OkG.one (tg0 (by decide) ⟨h1,ht,hc,trivial⟩)))
  | some p =>
   obtain⟨x,y⟩:=p
   obtain⟨hx,hy,hy7⟩:=asked_g hs he
   exact OkG.sub (H.t (.clauses 62 2) _ _ (show zeroK 62=true from by decide)) (fun c m hc _=>OkG.one (tg61 h1 hx hy hy7 hc))
theorem switchSecond_g (H:GOk E S) {fr:Nat}{a:Tr} (h1:Tg E a) (n:Nat) (g:Bool):OkG E 1 (switchSecond E S fr a n g):=by
 unfold switchSecond
 exact OkG.ite (fun _=>switchTail_g H h1 (none_tg _ _) (fun _ e=>by cases e) n g) (fun _=>OkG.sub (H.t .simple _ _ trivial) (fun s m hs _=>switchTail_g H h1 (none_tg _ _) (fun _ e=>by cases e;exact hs) m g))
theorem switches_g (H:GOk E S) (n:Nat) (g:Bool):OkG E 1 (switchesB E S n g):=by
 unfold switchesB
 exact OkG.ite (fun _=>switchTail_g H (none_tg _ _) (none_tg _ _) (fun _ e=>by cases e) _ g) (fun _=>OkG.ite (fun _=>switchSecond_g H (none_tg _ _) _ g) (fun _=>OkG.sub (H.t .simple _ _ trivial) (fun s m hs _=>OkG.ite (fun _=>switchSecond_g H hs _ g) (fun _=>switchTail_g H (none_tg _ _) (none_tg _ _) (fun _ e=>by cases e;exact hs) _ g))))
theorem rowsB_g (H:GOk E S) (mark shut:List UInt8) (o:One) (acc:List Tr) (word:Int) (n:Nat) (g:Bool) (ha:TgL E acc):OkH E (rowsB E S mark shut o acc word n g):=by
 unfold rowsB
 by_cases hc:E.is n shut=true
 ·rw [if_pos hc]
  exact fun a m e=>by cases e;exact ha
 rw [if_neg hc]
 have key:∀ r:R (Tr × Int),(∀ p m,r=.ok p m→Tg E p.1)→OkH E (r.andThen fun p n1=>if E.is n1 shut then S.l mark shut o (acc++[p.1]) p.2 n1 g else (want E mark n1).andThen fun _ n2=>S.l mark shut o (acc++[p.1]) p.2 n2 g):=by
  intro r hr
  cases r with
  | ok p m =>
   have hup:∀ m',OkH E (S.l mark shut o (acc++[p.1]) p.2 m' g):=fun m'=>H.l mark shut o (acc++[p.1]) p.2 m' g (ha.snoc (hr p m rfl))
   show OkH E (if E.is m shut then _ else _)
   by_cases hs:E.is m shut=true
   ·rw [if_pos hs];exact hup m
   ·rw [if_neg hs];exact OkH.want (hup _)
  | bad k=>exact fun _ _ h=>by cases h
  | out=>exact fun _ _ h=>by cases h
 refine key _ ?_
 have sub:∀ (r:R Tr) (f:Tr→Nat→R (Tr × Int)),OkG E 1 r→(∀ a m p m',f a m=.ok p m'→p.1=a)→∀ p m,r.andThen f=.ok p m→Tg E p.1:=by
  intro r f hr hf p m e
  cases r with
  | ok a m1=>rw [hf a m1 p m e];exact (hr a m1 rfl).1
  | bad k=>cases e
  | out=>cases e
 have plain:∀ o':One,∀ p m,((S.t (.one o') n g).andThen fun x n1=>(.ok (x,word) n1:R (Tr × Int)))=.ok p m→Tg E p.1 :=
  fun o'=>sub _ _ (H.t (.one o') n g trivial) (fun a m p m' e=>by cases e;rfl)
 cases o with
 | call =>
  intro p m e
  have e':(if 0≤word then (R.bad n:R (Tr × Int)) else (S.t .expr n g).andThen fun x n1=>if E.is n1 [46,46,46] then .ok (x,(n1:Int)) (n1+1) else .ok (x,word) n1)=.ok p m:=e
  split at e'
  ·cases e'
  ·refine sub _ _ (H.t .expr n g trivial) (fun a m p m' e=>?_) p m e'
   split at e
   ·cases e;rfl
   ·cases e;rfl
 | _=>exact plain _
end
section
variable {E:Env}{S:Self}
theorem is_not {n:Nat}{v w:List UInt8} (h:E.is n v=true) (hw:(v==w)=false):E.is n w=false:=by
 unfold Env.is at h ⊢
 rw [beq_iff_eq] at h
 rw [h];exact hw
theorem operand_g (H:GOk E S) (n:Nat) (g:Bool):OkG E 7 (operandB E S n g):=by
 unfold operandB
 refine OkG.ite (fun _=>leaf_g (by decide)) (fun _=>OkG.ite (fun _=>OkG.sub (H.t .expr _ _ trivial) (fun a m ha _=>OkG.want (OkG.ok (tg0 (by decide) ⟨ha,trivial⟩) (lv7 rfl)))) (fun _=>OkG.ite (fun _=>OkG.sub (H.t .signature _ _ trivial) (fun a m ha _=>OkG.ite (fun _=>OkG.sub (H.t .block _ _ trivial) (fun b m hb _=>OkG.ok (tg0 (by decide) ⟨ha,hb,trivial⟩) (lv7 rfl))) (fun _=>OkG.ok (tg0 (by decide) ⟨ha,trivial⟩) (lv7 rfl)))) (fun _=>OkG.ite (fun hc=>H.ty n g ?_) (fun _=>OkG.ite (fun hc=>OkG.ite (fun _=>H.ty n g (is_not hc rfl)) (fun _=>OkG.bad)) (fun _=>name_g)))))
 simp only [Bool.or_eq_true] at hc
 rcases hc with (((hc|hc)|hc)|hc)|hc <;> exact is_not hc rfl
theorem level_le' (ws:List UInt8):levelW ws≤5:=by
 unfold levelW
 repeat' split
 all_goals decide
theorem binMore_g (H:GOk E S) {least fr:Nat}{x:Tr}{n:Nat}{g:Bool} (hf:tgF E n (.binMore least fr x)):OkG E least (binMoreB E S least fr x n g)∧∀ a m,binMoreB E S least fr x n g=.ok a m→levelW (E.word m) < least:=by
 obtain⟨⟨h1,h6⟩,hx,hlx,hw⟩:=hf
 unfold binMoreB
 by_cases hc:levelW (E.word n) < least
 ·rw [if_pos hc]
  exact⟨OkG.ok hx hlx,fun a m e=>by cases e;exact hc⟩
 ·rw [if_neg hc]
  have h5:=level_le' (E.word n)
  have hb:tgF E (n+1) (.binary (levelW (E.word n)+1)):=⟨by omega,by omega⟩
  have hy:=H.t (.binary (levelW (E.word n)+1)) (n+1) g hb
  have hz:=H.op (levelW (E.word n)+1) (n+1) g hb
  cases hr:S.t (.binary (levelW (E.word n)+1)) (n+1) g with
  | ok y m =>
   rw [hr] at hy hz
   obtain⟨hy1,hy2⟩:=hy y m rfl
   have hz2:=hz y m rfl
   simp only [loF] at hy2
   have e:=lv37 (E:=E) (n:=n) (f:=fr) (t:=m) (ks:=[x,y]) (by omega)
   have hn:tgF E m (.binMore least fr (.mk 37 n fr m [x,y])):=⟨⟨h1,h6⟩,tg37 (by omega) hx hy1 hw (by omega),by rw [e];omega,by rw [e];omega⟩
   exact⟨H.t _ m g hn,H.om _ _ _ m g hn⟩
  | bad k=>exact⟨OkG.bad,fun _ _ e=>(by cases e)⟩
  | out=>exact⟨fun _ _ e=>(by cases e),fun _ _ e=>(by cases e)⟩
theorem binary_g (H:GOk E S) {l n:Nat}{g:Bool} (hf:tgF E n (.binary l)):OkG E l (stepT E S (.binary l) n g)∧∀ a m,stepT E S (.binary l) n g=.ok a m→levelW (E.word m) < l:=by
 show OkG E l ((S.t .unary n g).andThen fun x n1=>S.t (.binMore l n x) n1 g)∧∀ a m,((S.t .unary n g).andThen fun x n1=>S.t (.binMore l n x) n1 g)=.ok a m→_
 have hu:=H.t .unary n g trivial
 cases hr:S.t .unary n g with
 | ok x m =>
  rw [hr] at hu
  obtain⟨h1,h2⟩:=hu x m rfl
  simp only [loF] at h2
  have h5:=level_le' (E.word m)
  obtain⟨ha,hb⟩:=hf
  have hn:tgF E m (.binMore l n x):=⟨⟨ha,hb⟩,h1,by omega,by omega⟩
  exact⟨H.t _ m g hn,H.om _ _ _ m g hn⟩
 | bad k=>exact⟨OkG.bad,fun _ _ e=>(by cases e)⟩
 | out=>exact⟨fun _ _ e=>(by cases e),fun _ _ e=>(by cases e)⟩
theorem step_g (H:GOk E S):GOk E (step E S):=by
 refine⟨fun f n g hf=>?_,fun n g hs=>?_,fun l n g hf=>(binary_g H hf).2,fun l fr x n g hf=>(binMore_g H hf).2,fun mark shut o acc word n g ha=>rowsB_g H mark shut o acc word n g ha⟩
 ·show OkG E (loF f) (stepT E S f n g)
  cases f with
  | binary l=>exact (binary_g H hf).1
  | binMore l fr x=>exact (binMore_g H hf).1
  | operand=>exact operand_g H n g
  | rest fr left=>exact rest_g H hf n g
  | started=>exact OkG.sub (H.t .expr _ _ trivial) (fun a m ha _=>OkG.one (by split <;> exact tg0 (by decide) ⟨ha,trivial⟩))
  | switches=>exact switches_g H n g
  | one o =>
   cases o with
   | call=>exact OkG.bad
   | _ =>
    simp only [tgF] at hf
    simp only [stepT,fileB,fileImportsB,fileDeclsB,groupB,importSpecB,constSpecB,valueSpecB,typeSpecB,fnB,signatureB,paramsB,paramB,tparamsB,tparamB,namesB,namesMoreB,unionMoreB,typB,rowB,membersB,typeNameB,fieldB,elemB,exprsMoreB,typesMoreB,unaryB,primMoreB,dotB,callB,indexB,indexMoreB,sliceB,elementsB,elementB,valueB,stmtsMoreB,blockB,stmtB,declaredB,startedB,returnedB,branchB,selectsB,overallB,clausesB,clausesMoreB,ifsB,forsB,casedB,wrapT,equalsB,tilde,ifsTail,forsTail,ite_andThen,ok_andThen,bad_andThen,andThen_assoc]
    simp only [loF]
    repeat' (first|exact OkG.bad|refine OkG.ite (fun _=>?_) (fun _=>?_)|refine OkG.want ?_|(refine OkG.sub name_g ?_;intro a m ha hl)|(refine OkG.sub str_g ?_;intro a m ha hl)|(refine OkG.sub tag_g ?_;intro a m ha hl)|(refine OkG.sub (only_g (by assumption) _) ?_;intro a m ha hl)|(refine OkG.subL (rows_g H _ _ _ _ _ _) ?_;intro a m ha)|(refine OkG.sub (H.t _ _ _ ?_) (fun a m ha hl=>?_);try simp only [loF] at hl)|exact name_g.up (by decide)|exact str_g.up (by decide)|exact (leaf_g (by decide)).up (by decide)|refine OkG.up (H.t _ _ _ ?_) (by first|decide|exact Int.le_refl _|(simp only [loF];decide))|refine OkG.one ?_|refine OkG.ok ?_ ?_|assumption|exact trivial|exact none_tg _ _|refine list_tg (by first|decide|assumption) ?_|refine TgL.snoc ?_ ?_|refine tg0 (by first|decide|assumption) ?_|refine tg7 (by decide) ?_ ?_ ?_|refine tg6 (by decide) ?_ ?_|exact lv7 rfl|exact lv6 (by decide)|exact Int.le_trans (by decide) (lv7 rfl)|exact lv_pos _|decide|exact (show zeroK _=true from by decide)|refine⟨?_,?_⟩|(simp only [tgF])|omega|(simp only [loF] at *;omega))
  | _ =>
   simp only [tgF] at hf
   try obtain⟨hf1,hf2⟩:=hf
   try obtain⟨hf2,hf3⟩:=hf2
   simp only [stepT,fileB,fileImportsB,fileDeclsB,groupB,importSpecB,constSpecB,valueSpecB,typeSpecB,fnB,signatureB,paramsB,paramB,tparamsB,tparamB,namesB,namesMoreB,unionMoreB,typB,rowB,membersB,typeNameB,fieldB,elemB,exprsMoreB,typesMoreB,unaryB,primMoreB,dotB,callB,indexB,indexMoreB,sliceB,elementsB,elementB,valueB,stmtsMoreB,blockB,stmtB,declaredB,startedB,returnedB,branchB,selectsB,overallB,clausesB,clausesMoreB,ifsB,forsB,casedB,wrapT,equalsB,tilde,ifsTail,forsTail,ite_andThen,ok_andThen,bad_andThen,andThen_assoc]
   simp only [loF]
   repeat' (first|exact OkG.bad|refine OkG.ite (fun _=>?_) (fun _=>?_)|refine OkG.want ?_|(refine OkG.sub name_g ?_;intro a m ha hl)|(refine OkG.sub str_g ?_;intro a m ha hl)|(refine OkG.sub tag_g ?_;intro a m ha hl)|(refine OkG.sub (only_g (by assumption) _) ?_;intro a m ha hl)|(refine OkG.subL (rows_g H _ _ _ _ _ _) ?_;intro a m ha)|(refine OkG.sub (H.t _ _ _ ?_) (fun a m ha hl=>?_);try simp only [loF] at hl)|exact name_g.up (by decide)|exact str_g.up (by decide)|exact (leaf_g (by decide)).up (by decide)|refine OkG.up (H.t _ _ _ ?_) (by first|decide|exact Int.le_refl _|(simp only [loF];decide))|refine OkG.one ?_|refine OkG.ok ?_ ?_|assumption|exact trivial|exact none_tg _ _|refine list_tg (by first|decide|assumption) ?_|refine TgL.snoc ?_ ?_|refine tg0 (by first|decide|assumption) ?_|refine tg7 (by decide) ?_ ?_ ?_|refine tg6 (by decide) ?_ ?_|exact lv7 rfl|exact lv6 (by decide)|exact Int.le_trans (by decide) (lv7 rfl)|exact lv_pos _|decide|exact (show zeroK _=true from by decide)|refine⟨?_,?_⟩|(simp only [tgF])|omega|(simp only [loF] at *;omega))
 ·show OkG E 7 (stepT E S .typ n g)
  simp only [stepT,typB,hs,Bool.false_eq_true,if_false,wrapT,ok_andThen,andThen_assoc]
  repeat' (first|exact OkG.bad|refine OkG.ite (fun _=>?_) (fun _=>?_)|refine OkG.want ?_|(refine OkG.sub name_g ?_;intro a m ha hl)|(refine OkG.sub str_g ?_;intro a m ha hl)|(refine OkG.sub tag_g ?_;intro a m ha hl)|(refine OkG.sub (only_g (by assumption) _) ?_;intro a m ha hl)|(refine OkG.subL (rows_g H _ _ _ _ _ _) ?_;intro a m ha)|(refine OkG.sub (H.t _ _ _ ?_) (fun a m ha hl=>?_);try simp only [loF] at hl)|exact name_g.up (by decide)|exact str_g.up (by decide)|exact (leaf_g (by decide)).up (by decide)|refine OkG.up (H.t _ _ _ ?_) (by first|decide|exact Int.le_refl _|(simp only [loF];decide))|refine OkG.one ?_|refine OkG.ok ?_ ?_|assumption|exact trivial|exact none_tg _ _|refine list_tg (by first|decide|assumption) ?_|refine TgL.snoc ?_ ?_|refine tg0 (by first|decide|assumption) ?_|refine tg7 (by decide) ?_ ?_ ?_|refine tg6 (by decide) ?_ ?_|exact lv7 rfl|exact lv6 (by decide)|exact Int.le_trans (by decide) (lv7 rfl)|exact lv_pos _|decide|exact (show zeroK _=true from by decide)|refine⟨?_,?_⟩|(simp only [tgF])|omega|(simp only [loF] at *;omega))
theorem spec_g (E:Env):∀ k,GOk E (spec E k)
 | 0=>⟨fun _ _ _ _=>fun _ _ h=>(by cases h),fun _ _ _=>fun _ _ h=>(by cases h),fun _ _ _ _=>fun _ _ h=>(by cases h),fun _ _ _ _ _ _=>fun _ _ h=>(by cases h),fun _ _ _ _ _ _ _ _=>fun _ _ h=>(by cases h)⟩
 | k+1=>step_g (spec_g E k)
end
end Go.Proofs.YtcjmpafkcmlhbaaGreatDoor
