import Derived.Test.YtiifmpgpfijdgaaGreatDoorQAT
namespace Go.Proofs.YtiifmpgpfijdgaaGreatDoor
set_option linter.all false
set_option maxHeartbeats 40000000
set_option maxRecDepth 100000
section
theorem decN_ext {n m b0 b1 b2 b3 c1 c2 c3:Nat} (hmn:m≤n) (h1:1 < m→c1=b1) (h2:2 < m→c2=b2) (h3:3 < m→c3=b3)
  (hr:(Lib.decodeN m b0 c1 c2 c3).1≠65533∨2≤(Lib.decodeN m b0 c1 c2 c3).2):Lib.decodeN n b0 b1 b2 b3=Lib.decodeN m b0 c1 c2 c3:=by
 unfold Lib.decodeN at hr ⊢
 by_cases a0:b0 < 128
 ·rw [if_pos a0,if_pos a0]
 rw [if_neg a0] at hr
 rw [if_neg a0,if_neg a0]
 by_cases a1:b0 / 32=6∧(1 < m∧c1 / 64=2)
 ·have:=h1 a1.2.1
  subst this
  rw [if_pos a1,if_pos ⟨a1.1,by omega,a1.2.2⟩]
 rw [if_neg a1] at hr
 rw [if_neg a1]
 by_cases a2:b0 / 16=14∧(1 < m∧c1 / 64=2)∧(2 < m∧c2 / 64=2)
 ·have:=h1 a2.2.1.1
  subst this
  have:=h2 a2.2.2.1
  subst this
  rw [if_pos a2,if_neg (fun h=>by omega),if_pos ⟨a2.1,⟨by omega,a2.2.1.2⟩,by omega,a2.2.2.2⟩]
 rw [if_neg a2] at hr
 rw [if_neg a2]
 by_cases a3:b0 / 8=30∧(1 < m∧c1 / 64=2)∧(2 < m∧c2 / 64=2)∧(3 < m∧c3 / 64=2)
 ·have:=h1 a3.2.1.1
  subst this
  have:=h2 a3.2.2.1.1
  subst this
  have:=h3 a3.2.2.2.1
  subst this
  rw [if_pos a3,if_neg (fun h=>by omega),if_neg (fun h=>by omega),if_pos ⟨a3.1,⟨by omega,a3.2.1.2⟩,⟨by omega,a3.2.2.1.2⟩,by omega,a3.2.2.2.2⟩]
 rw [if_neg a3] at hr
 simp at hr
theorem dec_ext {x:List UInt8} (q:List UInt8) (hx:x≠[]) (hr:(dec x).1≠65533∨2≤(dec x).2):dec (x++q)=dec x:=by
 have hl:x.length≠0:=fun e=>hx (List.eq_nil_of_length_eq_zero e)
 have hs:(ByteArray.mk x.toArray).size≠0:=by simp [ByteArray.size];exact hx
 have hs2:(ByteArray.mk (x++q).toArray).size≠0:=by simp [ByteArray.size];exact fun h=>absurd h hx
 unfold dec Lib.decodeGo at hr ⊢
 rw [if_neg hs,Lib.decode_at] at hr
 rw [if_neg hs,if_neg hs2,Lib.decode_at,Lib.decode_at]
 simp only [get_bang,ByteArray.size,List.size_toArray,Nat.sub_zero,Nat.zero_add] at hr ⊢
 have hg:∀ j,j < x.length→x[j]?=(x++q)[j]?:=fun j hj=>by rw [List.getElem?_append_left hj]
 rw [← hg 0 (by omega)]
 exact decN_ext (by rw [List.length_append];omega) (fun h=>by rw [hg 1 h]) (fun h=>by rw [hg 2 h]) (fun h=>by rw [hg 3 h]) hr
theorem dec_same {x y:List UInt8}{m:Nat} (h:x.take m=y.take m) (hx:x≠[]) (hm:m≤x.length) (hw:(dec x).2≤m) (hr:(dec x).1≠65533∨2≤(dec x).2):dec y=dec x:=by
 have h1:=dec_local hx hw hm hr
 have hm0:0 < m:=by have:=dec_pos hx;omega
 have hne:x.take m≠[]:=by
  intro e
  have:=congrArg List.length e
  simp only [List.length_take,List.length_nil] at this
  have:x.length≠0:=fun e=>hx (List.eq_nil_of_length_eq_zero e)
  omega
 have h2:=dec_ext (y.drop m) hne (by rw [h1];exact hr)
 rw [h1] at h2
 rw [← h2,h,List.take_append_drop]
theorem ix_ext:∀ {x:List UInt8}{c:UInt8}{n m:Nat},Lib.indexByte (x.take m) c=(n:Int)→Lib.indexByte x c=(n:Int)
 | [],_,_,_,h=>by simpa using h
 | _::_,_,_,0,h=>by simp [Lib.indexByte] at h
 | b::l,c,n,m+1,h=>by
  rw [List.take_succ_cons,Lib.indexByte] at h
  rw [Lib.indexByte]
  split at h
  ·rename_i hb;rw [if_pos hb];exact h
  ·rename_i hb
   rw [if_neg hb]
   split at h
   ·omega
   ·rename_i hl
    have hge:=Lib.indexByte_ge (l.take m) c
    have hne:Lib.indexByte (l.take m) c≠-1:=fun e=>hl (beq_iff_eq.2 e)
    obtain⟨o,ho⟩:∃ o:Nat,Lib.indexByte (l.take m) c=(o:Int):=⟨(Lib.indexByte (l.take m) c).toNat,by omega⟩
    have hi:=ix_ext ho
    rw [hi,if_neg (by simp <;> omega),← ho]
    exact h
structure Ag (l l':List UInt8) (a b o:Nat):Prop where
 hb:b≤l.length
 hb':b - a+o≤l'.length
 at_:∀ i,a≤i→i < b→l'[i - a+o]?=l[i]?
variable {l l':List UInt8}{a b o:Nat}
theorem Ag.of {l l' w r r':List UInt8}{a o:Nat} (h:l.drop a=w++r) (h':l'.drop o=w++r') (ha:a≤l.length) (ho:o≤l'.length):Ag l l' a (a+w.length) o:=by
 have e:=congrArg List.length h
 have e':=congrArg List.length h'
 simp only [List.length_drop,List.length_append] at e e'
 refine⟨by omega,by omega,fun i h1 h2=>?_⟩
 have g:(l.drop a)[i - a]?=w[i - a]?:=by rw [h,List.getElem?_append_left (by omega)]
 have g':(l'.drop o)[i - a]?=w[i - a]?:=by rw [h',List.getElem?_append_left (by omega)]
 rw [List.getElem?_drop] at g g'
 rw [show i - a+o=o+(i - a) by omega,g',← g,show a+(i - a)=i by omega]
theorem ag_take (h:Ag l l' a b o) {i:Nat} (h1:a≤i) (h2:i≤b):(l.drop i).take (b - i)=(l'.drop (i - a+o)).take (b - i):=by
 apply List.ext_getElem?
 intro j
 rw [List.getElem?_take,List.getElem?_take]
 split
 ·rw [List.getElem?_drop,List.getElem?_drop,show i - a+o+j=i+j - a+o by omega,h.at_ (i+j) (by omega) (by omega)]
 ·rfl
theorem ag_dec (h:Ag l l' a b o) {i:Nat} (h1:a≤i) (h2:i < b) (hw:(dec (l.drop i)).2≤b - i) (hr:(dec (l.drop i)).1≠65533∨2≤(dec (l.drop i)).2):dec (l'.drop (i - a+o))=dec (l.drop i):=by
 have hb:=h.hb
 exact dec_same (ag_take h h1 (by omega)) (by intro e;have:=congrArg List.length e;simp only [List.length_drop,List.length_nil] at this;omega) (by rw [List.length_drop];omega) hw hr
theorem ag_readR (h:Ag l l' a b o) {i:Nat} (h1:a≤i) (h2:i < b) (hw:(dec (l.drop i)).2≤b - i) (hr:(dec (l.drop i)).1≠65533∨2≤(dec (l.drop i)).2):readR l' ((i - a+o:Nat):Int)=readR l (i:Int):=by
 have hb:=h.hb
 have hb':=h.hb'
 have e:=ag_dec h h1 h2 hw hr
 unfold readR
 rw [if_neg (show ¬ (((i - a+o:Nat):Int) < 0∨(l'.length:Int)≤((i - a+o:Nat):Int)) by omega),if_neg (show ¬ ((i:Int) < 0∨(l.length:Int)≤(i:Int)) by omega),Int.toNat_natCast,Int.toNat_natCast,e]
theorem ag_get (h:Ag l l' a b o) {i:Nat} (h1:a≤i) (h2:i < b) (hi:i < l.length):∃ hi':i - a+o < l'.length,l'[i - a+o]'hi'=l[i]:=by
 have hb':=h.hb'
 have hi':i - a+o < l'.length:=by omega
 have this:=h.at_ i h1 h2
 rw [List.getElem?_eq_getElem hi,List.getElem?_eq_getElem hi'] at this
 exact⟨hi',Option.some.inj this⟩
def shR (a o:Nat) (q:Qs):Qs:=⟨q.k - a+o,q.out,q.bad⟩
theorem ag_digit (h:Ag l l' a b o) {k:Nat} (h1:a≤k) (h2:k < b):digitQ l' (k - a+o)=digitQ l k:=by
 have hb:=h.hb
 have hb':=h.hb'
 unfold digitQ Num.bat
 rw [if_pos (by omega),if_pos (by omega),h.at_ k h1 h2]
theorem shR_up {q:Qs} (ha:a≤q.k) (out:List UInt8) (bad:Bool):(⟨(shR a o q).k+1,out,bad⟩:Qs)=shR a o ⟨q.k+1,out,bad⟩:=by
 show (⟨q.k - a+o+1,out,bad⟩:Qs)=⟨q.k+1 - a+o,out,bad⟩
 rw [show q.k - a+o+1=q.k+1 - a+o by omega]
theorem shR_up1 {q:Qs} (ha:a≤q.k):(⟨(shR a o q).k+1,(shR a o q).out,(shR a o q).bad⟩:Qs)=shR a o ⟨q.k+1,q.out,q.bad⟩:=shR_up ha _ _
theorem ag_num (h:Ag l l' a b o) (base:Int):∀ (f:Nat) (q:Qs) (n:Int),a≤q.k→(numQ l base f q n).2.bad=false→(numQ l base f q n).2.k≤b→numQ l' base f (shR a o q) n=((numQ l base f q n).1,shR a o (numQ l base f q n).2)
 | 0,q,n,_,_,_=>rfl
 | f+1,q,n,ha,h1,h2=>by
  rw [numQ] at h1 h2
  by_cases c:digitQ l q.k < 0∨base≤digitQ l q.k
  ·rw [if_pos c] at h1;cases h1
  rw [if_neg c] at h1 h2
  have hu:q.k+1≤_:=numQ_up l base f ⟨q.k+1,q.out,q.bad⟩ (n*base+digitQ l q.k)
  have hd:digitQ l' (shR a o q).k=digitQ l q.k:=ag_digit h ha (by omega)
  rw [numQ,hd,if_neg c,shR_up1 ha,ag_num h base f _ _ (by show a≤q.k+1;omega) h1 h2,numQ,if_neg c]
theorem codeR_sh (m:UInt8) (n:Int) (ch:Bool) (q:Qs):codeQ m n ch (shR a o q)=shR a o (codeQ m n ch q):=by
 unfold codeQ
 split
 ·rfl
 ·split <;> rfl
theorem ag_code (h:Ag l l' a b o) {m:UInt8}{ch:Bool}{base:Int}{f:Nat}{q:Qs} (ha:a≤q.k) (h1:(codeQ m (numQ l base f q 0).1 ch (numQ l base f q 0).2).bad=false) (h2:(codeQ m (numQ l base f q 0).1 ch (numQ l base f q 0).2).k≤b) :
  codeQ m (numQ l' base f (shR a o q) 0).1 ch (numQ l' base f (shR a o q) 0).2=shR a o (codeQ m (numQ l base f q 0).1 ch (numQ l base f q 0).2):=by
 have hk:=(codeQ_facts m (numQ l base f q 0).1 ch (numQ l base f q 0).2).1
 rw [ag_num h base f q 0 ha (codeQ_bad h1) (by omega),codeR_sh]
theorem ag_escape (h:Ag l l' a b o) {m:UInt8}{q:Qs} (ha:a≤q.k) (hk:q.k < b) (h1:(escapeQ l m q).bad=false) (h2:(escapeQ l m q).k≤b):escapeQ l' m (shR a o q)=shR a o (escapeQ l m q):=by
 have hq:q.k < l.length:=by have:=h.hb;omega
 obtain⟨hq',hg⟩:∃ hq':(shR a o q).k < l'.length,l'[(shR a o q).k]'hq'=l[q.k]:=ag_get h ha hk hq
 have ha':∀ out bad,a≤(⟨q.k+1,out,bad⟩:Qs).k:=fun out bad=>by show a≤q.k+1;omega
 unfold escapeQ at h1 h2 ⊢
 rw [dif_pos hq] at h1 h2
 rw [dif_pos hq,dif_pos hq',hg]
 split at h1
 ·rename_i c;rw [if_pos c,if_pos c];exact shR_up ha _ _
 ·rename_i c
  rw [if_neg c] at h2
  rw [if_neg c,if_neg c]
  split at h1
  ·rename_i c;rw [if_pos c,if_pos c];exact shR_up ha _ _
  ·rename_i c
   rw [if_neg c] at h2
   rw [if_neg c,if_neg c]
   split at h1
   ·rename_i c
    rw [if_pos c] at h2
    rw [if_pos c,if_pos c,shR_up1 ha]
    exact ag_code h (ha' _ _) h1 h2
   ·rename_i c
    rw [if_neg c] at h2
    rw [if_neg c,if_neg c]
    split at h1
    ·rename_i c
     rw [if_pos c] at h2
     rw [if_pos c,if_pos c,shR_up1 ha]
     exact ag_code h (ha' _ _) h1 h2
    ·rename_i c
     rw [if_neg c] at h2
     rw [if_neg c,if_neg c]
     split at h1
     ·rename_i c
      rw [if_pos c] at h2
      rw [if_pos c,if_pos c,shR_up1 ha]
      exact ag_code h (ha' _ _) h1 h2
     ·rename_i c
      rw [if_neg c] at h2
      rw [if_neg c,if_neg c]
      have hb1:=codeQ_bad h1
      simp only [Bool.or_eq_false_iff] at hb1
      have hk1:=(codeQ_facts m ((numQ l 8 3 q 0).1 % 256) false ⟨(numQ l 8 3 q 0).2.k,(numQ l 8 3 q 0).2.out,(numQ l 8 3 q 0).2.bad||decide (255 < (numQ l 8 3 q 0).1)⟩).1
      rw [hk1] at h2
      rw [ag_num h 8 3 q 0 ha hb1.1 h2]
      exact codeR_sh (a:=a) m _ false ⟨(numQ l 8 3 q 0).2.k,(numQ l 8 3 q 0).2.out,(numQ l 8 3 q 0).2.bad||decide (255 < (numQ l 8 3 q 0).1)⟩
theorem ag_plainN (h:Ag l l' a b o) {m:UInt8}{k:Nat} (ha:a≤k) (hk:k < b) (h0:plainN l m k≠0) (h2:k+plainN l m k≤b):plainN l' m (k - a+o)=plainN l m k:=by
 have hb:=h.hb
 unfold plainN at h0 h2 ⊢
 split
 ·rename_i c
  rw [if_pos c] at h0 h2
  have q0:readR l (k:Int)=if (dec (l.drop k)).1=65533∧(dec (l.drop k)).2 < 2 then (0,0) else (((dec (l.drop k)).1:Int),((dec (l.drop k)).2:Int)):=by
   unfold readR
   rw [if_neg (by omega),Int.toNat_natCast]
  by_cases cr:(dec (l.drop k)).1=65533∧(dec (l.drop k)).2 < 2
  ·rw [q0,if_pos cr] at h0;exact absurd rfl h0
  have h2':=h2
  rw [q0,if_neg cr] at h2'
  simp only [Int.toNat_natCast] at h2'
  rw [ag_readR h ha hk (by omega) (by omega)]
 ·rfl
theorem ag_plainQ (h:Ag l l' a b o) {m:UInt8}{q:Qs} (ha:a≤q.k) (hk:q.k < b) (h1:(plainQ l m q).bad=false) (h2:(plainQ l m q).k≤b):plainQ l' m (shR a o q)=shR a o (plainQ l m q):=by
 unfold plainQ at h1 h2 ⊢
 simp only [Bool.or_eq_false_iff,decide_eq_false_iff_not] at h1 h2
 have e:=ag_plainN h ha hk h1.1 h2
 have et:(l'.drop (q.k - a+o)).take (plainN l m q.k)=(l.drop q.k).take (plainN l m q.k):=by
  have:=congrArg (List.take (plainN l m q.k)) (ag_take h ha (by omega))
  rw [List.take_take,List.take_take,Nat.min_eq_left (by omega)] at this
  exact this.symm
 show (⟨q.k - a+o+plainN l' m (q.k - a+o),q.out++(l'.drop (q.k - a+o)).take (plainN l' m (q.k - a+o)),decide (plainN l' m (q.k - a+o)=0)||decide (l'[q.k - a+o]?.getD 0=10)⟩:Qs)=_
 rw [e,h.at_ q.k ha hk,et,show q.k - a+o+plainN l m q.k=q.k+plainN l m q.k - a+o by omega]
 rfl
theorem ag_read (h:Ag l l' a b o) {m:UInt8}:∀ (f f' it:Nat) (q q2:Qs),readQ l m f it q=(true,q2)→q2.k≤b→a≤q.k→b - q.k≤f'→readQ l' m f' it (shR a o q)=(true,shR a o q2)∧q.k < q2.k
 | 0,f',it,q,q2,h,_,_,_=>by rw [readQ] at h;cases h
 | f+1,f',it,q,q2,hr,h2,ha,hf=>by
  have hb:=h.hb
  have hgd:=readQ_good hr
  rw [readQ] at hr
  split at hr
  ·rename_i hq
   have key:q.k < b→∃ g,f'=g+1∧∃ hq':(shR a o q).k < l'.length,l'[(shR a o q).k]'hq'=l[q.k]:=fun hk=>by
    obtain⟨hq',hg⟩:=ag_get h ha hk hq
    exact⟨f' - 1,by omega,hq',hg⟩
   have hgd':¬ (shR a o q).bad=true:=by rw [show (shR a o q).bad=q.bad from rfl,hgd];decide
   rw [if_neg (by rw [hgd];decide)] at hr
   split at hr
   ·rename_i c
    have h1:(decide (m=34)||decide (it=1))=true:=congrArg Prod.fst hr
    have h3:q2=⟨q.k+1,q.out,q.bad⟩:=(congrArg Prod.snd hr).symm
    subst h3
    have h4:q.k+1≤b:=h2
    obtain⟨g,rfl,hq',hg⟩:=key (by omega)
    refine⟨?_,Nat.lt_succ_self _⟩
    rw [readQ,dif_pos hq',if_neg hgd',hg,if_pos c,h1]
    exact congrArg (Prod.mk true) (shR_up ha _ _)
   ·rename_i c
    split at hr
    ·cases hr
    ·rename_i c2
     split at hr
     ·rename_i c3
      have hfa:=escapeQ_facts l m ⟨q.k+1,q.out,q.bad⟩ hq
      have hfa1:q.k+1≤_:=hfa.1
      have hlt:=(ag_read h f (b - q.k) (it+1) _ q2 hr h2 (by omega) (by omega)).2
      obtain⟨g,rfl,hq',hg⟩:=key (by omega)
      obtain⟨hR,_⟩:=ag_read h f g (it+1) _ q2 hr h2 (by omega) (by omega)
      refine⟨?_,by omega⟩
      rw [readQ,dif_pos hq',if_neg hgd',hg,if_neg c,if_neg c2,if_pos c3,shR_up1 ha,ag_escape h (by show a≤q.k+1;omega) (by show q.k+1 < b;omega) (readQ_good hr) (by omega)]
      exact hR
     ·rename_i c3
      have hfa:=plainQ_facts l m q hq
      have hfb:=hfa.2.2.2 (readQ_good hr)
      have hlt:=(ag_read h f (b - q.k) (it+1) _ q2 hr h2 (by omega) (by omega)).2
      obtain⟨g,rfl,hq',hg⟩:=key (by omega)
      obtain⟨hR,_⟩:=ag_read h f g (it+1) _ q2 hr h2 (by omega) (by omega)
      refine⟨?_,by omega⟩
      rw [readQ,dif_pos hq',if_neg hgd',hg,if_neg c,if_neg c2,if_neg c3,ag_plainQ h ha (by omega) (readQ_good hr) (by omega)]
      exact hR
  ·cases hr
theorem ag_begin {k:Nat} (h:Ag l l' k b o) (hk:k < l.length) (h0:(beginQ l k).k≠0) (hb:(beginQ l k).tx=(b:Int)):(beginQ l' o).k=(beginQ l k).k∧(beginQ l' o).e=(beginQ l k).e∧(beginQ l' o).tx=((b - k+o:Nat):Int):=by
 obtain⟨kd,tx,e1,_,e2,e3,e4⟩:=beginQ_fit l k hk h0
 simp only at e1 e2
 have e5:tx=b:=by omega
 subst e5
 obtain⟨ho',hg0⟩:=ag_get h (Nat.le_refl k) e3 hk
 rw [Nat.sub_self,Nat.zero_add] at ho'
 have hg:l'[o]'ho'=l[k]:=by
  have:=h.at_ k (Nat.le_refl k) e3
  rw [Nat.sub_self,Nat.zero_add,List.getElem?_eq_getElem hk,List.getElem?_eq_getElem ho'] at this
  exact Option.some.inj this
 unfold beginQ at h0 hb ⊢
 rw [dif_pos (by omega)] at h0 hb
 rw [dif_pos (by omega),dif_pos (by omega)]
 simp only [Int.toNat_natCast] at h0 hb ⊢
 simp only [hg]
 by_cases h1:Lib.indexByte ([39,34,96]:List UInt8) l[k] < 0
 ·rw [if_pos h1] at h0;exact absurd rfl h0
 rw [if_neg h1] at h0 hb
 rw [if_neg h1,if_neg h1]
 by_cases h2:l[k]=96
 ·rw [if_pos h2] at h0 hb
  rw [if_pos h2,if_pos h2]
  by_cases h3:Lib.indexByte (l.drop (k+1)) 96 < 0
  ·rw [if_pos h3] at h0;exact absurd rfl h0
  rw [if_neg h3] at hb
  obtain⟨n,hn⟩:=Int.eq_ofNat_of_zero_le (Int.not_lt.1 h3)
  rw [hn] at hb
  simp only at hb
  obtain⟨hs1,hs2⟩:=Lib.indexByte_some hn
  have hi:Lib.indexByte (l'.drop (o+1)) 96=(n:Int):=by
   have e:(l'.drop (o+1)).take (n+1)=(l.drop (k+1)).take (n+1):=by
    have:=ag_take h (i:=k+1) (by omega) (by omega)
    rw [show k+1 - k+o=o+1 by omega,show tx - (k+1)=n+1 by omega] at this
    exact this.symm
   have hc:=ix_cut hn
   rw [← e] at hc
   exact ix_ext hc
  rw [hi,hn,if_neg (by omega),if_neg (by omega)]
  exact⟨rfl,rfl,by show (o:Int)+n+2=_;omega⟩
 rw [if_neg h2] at h0 hb
 rw [if_neg h2,if_neg h2]
 by_cases h3:(readQ l l[k] l.length 0 ⟨k+1,[],false⟩).1=true
 ·rw [if_pos h3] at hb
  have hq2:(readQ l l[k] l.length 0 ⟨k+1,[],false⟩).2.k=tx:=by simp only at hb;omega
  have hR:=(ag_read h l.length l'.length 0 ⟨k+1,[],false⟩ (readQ l l[k] l.length 0 ⟨k+1,[],false⟩).2 (Prod.ext h3 rfl) (by omega) (Nat.le_succ k) (by show tx - (k+1)≤_;have:=h.hb';omega)).1
  have e:shR k o ⟨k+1,[],false⟩=⟨o+1,[],false⟩:=by unfold shR;simp;omega
  rw [e] at hR
  rw [hR,if_pos rfl,if_pos h3]
  refine⟨rfl,rfl,?_⟩
  show (((readQ l l[k] l.length 0 ⟨k+1,[],false⟩).2.k - k+o:Nat):Int)=_
  rw [hq2]
 ·rw [if_neg h3] at h0;exact absurd rfl h0
end
section
variable {l l':List UInt8}{a b o k:Nat}
theorem letterE:letterB 65533=false:=by decide
theorem digitE:digitB 65533=false:=by decide
def Stp (r r':List UInt8):Prop :=
 r'=[]∨(∃ x,r'=32::x)∨(∃ x,r'=10::x)∨(r≠[]∧(∃ q,r'=r++q∧(q=[]∨∃ x,q=10::x))∧((dec r).1≠65533∨2≤(dec r).2))
theorem Stp.next {r r':List UInt8} (h:Stp r r') {y:UInt8} (hy:y≠32∧y≠10) {x:List UInt8} (e:r'=y::x):∃ x',r=y::x':=by
 rcases h with h|⟨z,h⟩|⟨z,h⟩|⟨h,⟨q,h2,_⟩,_⟩
 ·rw [h] at e;cases e
 ·rw [h] at e;cases e;exact absurd rfl hy.1
 ·rw [h] at e;cases e;exact absurd rfl hy.2
 ·cases r with
  | nil=>exact absurd rfl h
  | cons c t=>rw [e] at h2;cases h2;exact⟨_,rfl⟩
theorem dec_32 (x:List UInt8):(letterB ((dec (32::x)).1:Int)||digitB ((dec (32::x)).1:Int))=false:=by rw [dec_one (by decide)];decide +kernel
theorem dec_10 (x:List UInt8):(letterB ((dec (10::x)).1:Int)||digitB ((dec (10::x)).1:Int))=false:=by rw [dec_one (by decide)];decide +kernel
theorem Stp.word {r r':List UInt8} (h:Stp r r') (h1:r=[]∨(letterB ((dec r).1:Int)||digitB ((dec r).1:Int))=false):r'=[]∨(letterB ((dec r').1:Int)||digitB ((dec r').1:Int))=false:=by
 rcases h with h|⟨z,h⟩|⟨z,h⟩|⟨h,⟨q,h2,_⟩,h3⟩
 ·exact .inl h
 ·right;rw [h];exact dec_32 z
 ·right;rw [h];exact dec_10 z
 ·right
  rw [h2,dec_ext q h h3]
  exact h1.resolve_left h
theorem has2 {T:List UInt8}{x y:UInt8}{k:Nat}{l:List UInt8} (hT:T=l.drop k:=by rfl):Lib.hasPrefix T [x,y]=true↔l[k]?=some x∧l[k+1]?=some y:=by
 subst hT
 have e0:l[k]?=(l.drop k)[0]?:=by rw [List.getElem?_drop];rfl
 have e1:l[k+1]?=(l.drop k)[1]?:=by rw [List.getElem?_drop]
 rw [e0,e1]
 generalize l.drop k=T
 rcases T with _|⟨u,_|⟨v,t⟩⟩
 ·simp [Lib.hasPrefix]
 ·simp [Lib.hasPrefix]
 ·simp only [Lib.hasPrefix,List.isPrefixOf,Bool.and_true,Bool.and_eq_true,beq_iff_eq,List.getElem?_cons_zero,List.getElem?_cons_succ,Option.some.injEq]
  exact⟨fun h=>⟨h.1.symm,h.2.symm⟩,fun h=>⟨h.1.symm,h.2.symm⟩⟩
theorem word_move {w r r':List UInt8} (hs:r'=[]∨(letterB ((dec r').1:Int)||digitB ((dec r').1:Int))=false):∀ (f f' p:Nat),p≤w.length→wordFrom (w++r) f p=w.length→(w++r).length≤p+f→(w++r').length≤p+f'→wordFrom (w++r') f' p=w.length:=by
 intro f
 induction f with
 | zero =>
  intro f' p hp h hf hf'
  rw [List.length_append] at hf hf'
  have hpw:p=w.length:=by omega
  subst hpw
  cases f' with
  | zero=>rw [wordFrom,List.length_append];omega
  | succ f' =>
   rw [wordFrom]
   split
   ·rename_i hlt
    rw [List.length_append] at hlt
    rw [List.drop_left]
    rcases hs with rfl|hs
    ·simp at hlt
    ·rw [if_neg (by rw [hs];decide)]
   ·rename_i hlt
    rw [List.length_append] at hlt ⊢
    omega
 | succ f ih =>
  intro f' p hp h hf hf'
  by_cases hpw:p=w.length
  ·subst hpw
   cases f' with
   | zero=>rw [List.length_append] at hf';rw [wordFrom,List.length_append];omega
   | succ f' =>
    rw [wordFrom]
    split
    ·rename_i hlt
     rw [List.length_append] at hlt
     rw [List.drop_left]
     rcases hs with rfl|hs
     ·simp at hlt
     ·rw [if_neg (by rw [hs];decide)]
    ·rename_i hlt
     rw [List.length_append] at hlt ⊢
     omega
  ·have hpT:p < (w++r).length:=by rw [List.length_append];omega
   have hpT':p < (w++r').length:=by rw [List.length_append];omega
   have hne:(w++r).drop p≠[]:=by intro e;have:=congrArg List.length e;simp only [List.length_drop,List.length_nil] at this;omega
   have hpos:=dec_pos hne
   have hwid:=dec_wid' hne
   rw [List.length_drop] at hwid
   rw [wordFrom,if_pos hpT] at h
   by_cases c:(letterB ((dec ((w++r).drop p)).1:Int)||digitB ((dec ((w++r).drop p)).1:Int))=true
   ·rw [if_pos c] at h
    have hge:=wordFrom_ge (w++r) f (p+(dec ((w++r).drop p)).2) (by omega)
    rw [h] at hge
    have hr:(dec ((w++r).drop p)).1≠65533:=fun e=>by
     rw [e] at c
     have h1:=letterE
     have h2:=digitE
     exact absurd c (by rw [show ((65533:Nat):Int)=65533 from rfl,h1,h2];decide)
    have hd:dec ((w++r').drop p)=dec ((w++r).drop p):=by
     refine dec_same (m:=w.length - p) ?_ hne (by rw [List.length_drop,List.length_append];omega) (by omega) (.inl hr)
     rw [List.drop_append_of_le_length hp,List.drop_append_of_le_length hp,List.take_left' (by rw [List.length_drop]),List.take_left' (by rw [List.length_drop])]
    obtain⟨g,rfl⟩:∃ g,f'=g+1:=⟨f' - 1,by rw [List.length_append] at hf';omega⟩
    rw [wordFrom,if_pos hpT',hd,if_pos c]
    exact ih g _ (by omega) h (by omega) (by omega)
   ·rw [if_neg c] at h
    exact absurd h hpw
theorem wordFrom_stop {T:List UInt8}:∀ (f p n:Nat),p≤T.length→T.length≤p+f→wordFrom T f p=n→n=T.length∨(letterB ((dec (T.drop n)).1:Int)||digitB ((dec (T.drop n)).1:Int))=false
 | 0,p,n,_,_,h=>by rw [wordFrom] at h;exact .inl h.symm
 | f+1,p,n,h1,h2,h=>by
  rw [wordFrom] at h
  split at h
  ·rename_i hp
   have hne:T.drop p≠[]:=by intro e;have:=congrArg List.length e;simp only [List.length_drop,List.length_nil] at this;omega
   have hpos:=dec_pos hne
   have hwid:=dec_wid' hne
   rw [List.length_drop] at hwid
   split at h
   ·exact wordFrom_stop f _ n (by omega) (by omega) h
   ·rename_i c;subst h;exact .inr (by simpa using c)
  ·exact .inl h.symm
theorem wordN_move {w r r':List UInt8} (hs:Stp r r') (h:wordN (w++r)=w.length):wordN (w++r')=w.length:=by
 unfold wordN at h ⊢
 refine word_move (hs.word ?_) _ _ 0 (Nat.zero_le _) h (by omega) (by omega)
 rcases wordFrom_stop _ 0 _ (Nat.zero_le _) (by omega) h with e|e
 ·left
  rw [List.length_append] at e
  exact List.eq_nil_of_length_eq_zero (by omega)
 ·right
  rw [List.drop_left] at e
  exact e
theorem runF_all (c:Nat→Bool):∀ f p i,p≤i→i < Num.runF c f p→c i=true
 | 0,p,i,h1,h2=>by rw [Num.runF] at h2;omega
 | f+1,p,i,h1,h2=>by
  rw [Num.runF] at h2
  split at h2
  ·rename_i h
   rcases Nat.eq_or_lt_of_le h1 with e|e
   ·subst e;exact h
   ·exact runF_all c f (p+1) i e h2
  ·omega
theorem runF_end (c:Nat→Bool):∀ f p,Num.runF c f p < p+f→c (Num.runF c f p)=false
 | 0,p,h=>by rw [Num.runF] at h;omega
 | f+1,p,h=>by
  rw [Num.runF] at h ⊢
  split
  ·rename_i hc
   rw [if_pos hc] at h
   exact runF_end c f (p+1) (by omega)
  ·rename_i hc;simpa using hc
theorem runF_move (c:Nat→Bool) (e:Nat):∀ f p,p≤e→(∀ i,p≤i→i < e→c i=true)→e≤p+f→(e=p+f∨c e=false)→Num.runF c f p=e
 | 0,p,h1,_,h3,_=>by rw [Num.runF];omega
 | f+1,p,h1,h2,h3,h4=>by
  rw [Num.runF]
  rcases Nat.eq_or_lt_of_le h1 with e1|e1
  ·subst e1
   rw [if_neg]
   rcases h4 with h|h
   ·omega
   ·simp [h]
  ·rw [if_pos (h2 p (Nat.le_refl _) e1)]
   exact runF_move c e f (p+1) e1 (fun i a b=>h2 i (by omega) b) (by omega) (by rcases h4 with h|h;exact .inl (by omega);exact .inr h)
theorem cont_move {hex:Bool}{i j:Nat} (h1:Num.bat l' j=Num.bat l i) (h2:k < i→Num.bat l' (j - 1)=Num.bat l (i - 1)) (h3:o < j↔k < i):Num.contL l' hex o j=Num.contL l hex k i:=by
 unfold Num.contL
 rw [h1]
 by_cases c:k < i
 ·rw [h2 c,decide_eq_true (h3.2 c),decide_eq_true c]
 ·rw [decide_eq_false (fun h=>c (h3.1 h)),decide_eq_false c]
  simp
theorem ag_bat (h:Ag l l' a b o) {i:Nat} (h1:a≤i) (h2:i < b):Num.bat l' (i - a+o)=Num.bat l i:=by unfold Num.bat;rw [h.at_ i h1 h2]
theorem cont_blank {hex:Bool}{j:Nat} (h:Num.bat l' j=32∨Num.bat l' j=10):Num.contL l' hex o j=false:=by
 unfold Num.contL
 rcases h with h|h
 all_goals
  rw [h]
  have h1:Num.alB 32=false:=by decide +kernel
  have h2:Num.alB 10=false:=by decide +kernel
  simp [h1,h2]
theorem scan_move {w r r':List UInt8} (hT:l.drop k=w++r) (hT':l'.drop o=w++r') (hk:k < l.length) (ho:o < l'.length) (hs:Stp r r') {K:Int} (h0:K≠0) (h:Num.scanA l k=(K,((k+w.length:Nat):Int),0)):Num.scanA l' o=(K,((o+w.length:Nat):Int),0):=by
 have hA:=Ag.of hT hT' (by omega) (by omega)
 have hlen:=congrArg List.length hT
 have hlen':=congrArg List.length hT'
 simp only [List.length_drop,List.length_append] at hlen hlen'
 unfold Num.scanA at h ⊢
 by_cases hb:Num.beginsL l k=true
 ·rw [if_pos hb] at h
  simp only [Int.toNat_natCast] at h ⊢
  unfold Num.scanR at h ⊢
  simp only at h ⊢
  have hKK:Num.kindL ((l.drop k).take (Num.endR l (Num.hexB l k) k - k))≠0:=fun e=>by rw [if_neg (by simpa using e)] at h;exact h0 (congrArg Prod.fst h).symm
  rw [if_pos hKK] at h
  simp only [Prod.mk.injEq] at h
  obtain⟨hK,hE,_⟩:=h
  have hE:Num.endR l (Num.hexB l k) k=k+w.length:=by omega
  have hall:=runF_all (Num.contL l (Num.hexB l k) k) (l.length - k) k
  have hE2:Num.runF (Num.contL l (Num.hexB l k) k) (l.length - k) k=k+w.length:=hE
  rw [hE2] at hall
  have hfin:=runF_end (Num.contL l (Num.hexB l k) k) (l.length - k) k
  rw [hE2] at hfin
  have hw1:0 < w.length:=by
   rcases Nat.eq_zero_or_pos w.length with e|e
   ·rw [hE,e,Nat.add_zero,Nat.sub_self,List.take_zero,kindL_nil] at hKK;exact absurd rfl hKK
   ·exact e
  have hg0:l'[o]?=l[k]?:=by have:=hA.at_ k (Nat.le_refl _) (by omega);rwa [Nat.sub_self,Nat.zero_add] at this
  have hg1:∀ x,l[k+1]?=some x→Num.alB (x.toNat:Int)=true→2≤w.length:=fun x hx ha=>by
   rcases Nat.lt_or_ge 1 w.length with e|e
   ·exact e
   ·have e1:w.length=1:=by omega
    have hl1:=(List.getElem?_eq_some_iff.1 hx).1
    have:=hfin (by omega)
    rw [e1] at this
    unfold Num.contL Num.bat at this
    rw [hx] at this
    simp only [Option.getD_some] at this
    rw [ha] at this
    simp at this
  have hg2:2≤w.length→l'[o+1]?=l[k+1]?:=fun e=>by have:=hA.at_ (k+1) (by omega) (by omega);rwa [show k+1 - k+o=o+1 by omega] at this
  have hnx:∀ x:UInt8,x≠32∧x≠10→w.length=1→l'[o+1]?=some x→l[k+1]?=some x:=fun x hx e h=>by
   have g:(l'.drop o)[1]?=some x:=by rw [List.getElem?_drop];exact h
   rw [hT',List.getElem?_append_right (by omega),e,Nat.sub_self] at g
   cases r' with
   | nil=>simp at g
   | cons y t =>
    obtain rfl:y=x:=by simpa using g
    obtain⟨x',hx'⟩:=hs.next hx rfl
    have:(l.drop k)[1]?=some y:=by rw [hT,List.getElem?_append_right (by omega),e,hx'];rfl
    rw [List.getElem?_drop] at this
    exact this
  have hhex:Num.hexB l' o=Num.hexB l k:=by
   have pre:∀ y:UInt8,y≠32∧y≠10→Num.alB (y.toNat:Int)=true→Lib.hasPrefix (l'.drop o) [48,y]=Lib.hasPrefix (l.drop k) [48,y]:=fun y hy ha=>by
    rw [Bool.eq_iff_iff,has2,has2,hg0]
    refine and_congr_right fun _=>⟨fun h=>?_,fun h=>?_⟩
    ·rcases Nat.lt_or_ge 1 w.length with e|e
     ·rw [← hg2 e];exact h
     ·exact hnx y hy (by omega) h
    ·rw [hg2 (hg1 y h ha)];exact h
   unfold Num.hexB
   rw [pre 120 (by decide) (by decide +kernel),pre 88 (by decide) (by decide +kernel)]
  have hbeg:Num.beginsL l' o=true:=by
   unfold Num.beginsL at hb ⊢
   simp only [Int.toNat_natCast,Bool.and_eq_true,Bool.or_eq_true,decide_eq_true_eq] at hb ⊢
   have hb0:Num.bat l' o=Num.bat l k:=by unfold Num.bat;rw [hg0]
   refine⟨by omega,?_⟩
   rw [hb0]
   rcases hb.2 with h|⟨⟨h1,h2⟩,h3⟩
   ·exact .inl h
   ·right
    have hk1:k+1 < l.length:=by omega
    have hal:Num.alB ((l[k+1]).toNat:Int)=true:=by
     unfold Num.bat at h3
     rw [List.getElem?_eq_getElem hk1] at h3
     unfold Num.alB
     simp only [Option.getD_some] at h3
     exact decide_eq_true (.inr (.inr (.inl h3)))
    have hw2:=hg1 _ (List.getElem?_eq_getElem hk1) hal
    refine⟨⟨h1,by omega⟩,?_⟩
    have:Num.bat l' (o+1)=Num.bat l (k+1):=by unfold Num.bat;rw [hg2 hw2]
    rw [this]
    exact h3
  have hend:Num.endR l' (Num.hexB l k) o=o+w.length:=by
   unfold Num.endR
   refine runF_move _ (o+w.length) _ _ (by omega) (fun i h1 h2=>?_) (by omega) ?_
   ·have e:=hall (i - o+k) (by omega) (by omega)
    rw [← e]
    refine cont_move ?_ (fun hlt=>?_) (by omega)
    ·have:=ag_bat hA (i:=i - o+k) (by omega) (by omega)
     rwa [show i - o+k - k+o=i by omega] at this
    ·have:=ag_bat hA (i:=i - o+k - 1) (by omega) (by omega)
     rwa [show i - o+k - 1 - k+o=i - 1 by omega] at this
   ·have hbt:∀ y t,r'=y::t→Num.bat l' (o+w.length)=(y.toNat:Int):=fun y t e=>by
     have:(l'.drop o)[w.length]?=some y:=by rw [hT',List.getElem?_append_right (Nat.le_refl _),Nat.sub_self,e];rfl
     rw [List.getElem?_drop] at this
     unfold Num.bat
     rw [this];rfl
    rcases hs with e|⟨z,e⟩|⟨z,e⟩|⟨e,⟨q,e2,_⟩,_⟩
    ·left;rw [e] at hlen';simp at hlen';omega
    ·right;exact cont_blank (.inl (hbt _ _ e))
    ·right;exact cont_blank (.inr (hbt _ _ e))
    ·right
     cases hr:r with
     | nil=>exact absurd hr e
     | cons y t =>
      rw [hr] at e2 hT hlen
      rw [List.length_cons] at hlen
      rw [← hfin (by omega)]
      refine cont_move ?_ (fun hlt=>?_) (by omega)
      ·rw [hbt y _ e2]
       have:(l.drop k)[w.length]?=some y:=by rw [hT,List.getElem?_append_right (Nat.le_refl _),Nat.sub_self];rfl
       rw [List.getElem?_drop] at this
       unfold Num.bat
       rw [this];rfl
      ·have:=ag_bat hA (i:=k+w.length - 1) (by omega) (by omega)
       rwa [show k+w.length - 1 - k+o=o+w.length - 1 by omega] at this
  have hpc:(l'.drop o).take (o+w.length - o)=(l.drop k).take (k+w.length - k):=by
   rw [hT,hT',show o+w.length - o=w.length by omega,show k+w.length - k=w.length by omega,List.take_left,List.take_left]
  rw [hE] at hKK hK
  rw [if_pos hbeg,hhex,hend,hpc,if_pos hKK,hK]
 ·rw [if_neg hb] at h
  simp at h
end
end Go.Proofs.YtiifmpgpfijdgaaGreatDoor
