import Derived.Test.YtfmpphplbdojbaaGreatDoorQBQ
import Derived.Test.YtfmpphplbdojbaaGreatDoorQBM
import Derived.Test.YtfmpphplbdojbaaGreatDoorQBV
namespace Go.Proofs.YtfmpphplbdojbaaGreatDoor
set_option linter.all false
set_option maxHeartbeats 40000000
set_option maxRecDepth 100000
section
variable {l:List UInt8}{a b:Nat}
theorem SQ {n m b0 b1 b2 b3 c1 c2 c3:Nat} (hmn:m≤n) (h1:1 < m→c1=b1) (h2:2 < m→c2=b2) (h3:3 < m→c3=b3)
  (hw:(Lib.decodeN n b0 b1 b2 b3).2≤m) (hr:(Lib.decodeN n b0 b1 b2 b3).1≠65533∨2≤(Lib.decodeN n b0 b1 b2 b3).2):Lib.decodeN m b0 c1 c2 c3=Lib.decodeN n b0 b1 b2 b3:=by
 unfold Lib.decodeN at hw hr ⊢;by_cases a0:b0 < 128
 ·rw [if_pos a0,if_pos a0]
 rw [if_neg a0] at hw hr;rw [if_neg a0,if_neg a0];by_cases a1:b0 / 32=6∧(1 < n∧b1 / 64=2)
 ·rw [if_pos a1] at hw hr;split at hw
  ·rename_i v;have e1:1 < m:=by omega
   have:=h1 e1;subst this;rw [if_pos a1,if_pos ⟨a1.1,e1,a1.2.2⟩]
  ·rename_i v;rw [if_neg v] at hr;simp at hr
 rw [if_neg a1] at hw hr;rw [if_neg a1,if_neg (fun h=>a1 ⟨h.1,by omega,by rw [← h1 h.2.1];exact h.2.2⟩)];by_cases a2:b0 / 16=14∧(1 < n∧b1 / 64=2)∧(2 < n∧b2 / 64=2)
 ·rw [if_pos a2] at hw hr;split at hw
  ·rename_i v;have e2:2 < m:=by omega
   have:=h1 (by omega);subst this;have:=h2 e2;subst this;rw [if_pos a2,if_pos ⟨a2.1,⟨by omega,a2.2.1.2⟩,e2,a2.2.2.2⟩]
  ·rename_i v;rw [if_neg v] at hr;simp at hr
 rw [if_neg a2] at hw hr;rw [if_neg a2,if_neg (fun h=>a2 ⟨h.1,⟨by omega,by rw [← h1 h.2.1.1];exact h.2.1.2⟩,by omega,by rw [← h2 h.2.2.1];exact h.2.2.2⟩)];by_cases a3:b0 / 8=30∧(1 < n∧b1 / 64=2)∧(2 < n∧b2 / 64=2)∧(3 < n∧b3 / 64=2)
 ·rw [if_pos a3] at hw hr;split at hw
  ·rename_i v;have e3:3 < m:=by omega
   have:=h1 (by omega);subst this;have:=h2 (by omega);subst this;have:=h3 e3;subst this;rw [if_pos a3,if_pos ⟨a3.1,⟨by omega,a3.2.1.2⟩,⟨by omega,a3.2.2.1.2⟩,e3,a3.2.2.2.2⟩]
  ·rename_i v;rw [if_neg v] at hr;simp at hr
 rw [if_neg a3] at hw hr;simp at hr
theorem SM {x:List UInt8}{m:Nat} (hx:x≠[]) (hw:(dec x).2≤m) (hm:m≤x.length) (hr:(dec x).1≠65533∨2≤(dec x).2):dec (x.take m)=dec x:=by
 have hp:=eG hx;have hl:x.length≠0:=fun e=>hx (List.eq_nil_of_length_eq_zero e)
 have hs:(ByteArray.mk x.toArray).size≠0:=by simp [ByteArray.size];exact hx
 have hs2:(ByteArray.mk (x.take m).toArray).size≠0:=by simp [ByteArray.size];exact⟨by omega,hx⟩
 unfold dec Lib.decodeGo at hw hr ⊢;rw [if_neg hs,Lib.decode_at] at hw hr;rw [if_neg hs,if_neg hs2,Lib.decode_at,Lib.decode_at];simp only [pJ,ByteArray.size,List.size_toArray,Nat.sub_zero,Nat.zero_add] at hw hr ⊢;have hg:∀ j,j < m→(x.take m)[j]?=x[j]?:=fun j hj=>by rw [List.getElem?_take,if_pos hj]
 have e0:(x.take m)[0]?=x[0]?:=hg 0 (by
  have:1≤(dec x).2:=hp;unfold dec Lib.decodeGo at this;rw [if_neg hs,Lib.decode_at] at this;simp only [pJ,ByteArray.size,List.size_toArray,Nat.sub_zero,Nat.zero_add] at this;omega)
 rw [e0,List.length_take,Nat.min_eq_left hm];exact SQ hm (fun h=>by rw [hg 1 h]) (fun h=>by rw [hg 2 h]) (fun h=>by rw [hg 3 h]) hw hr
theorem IU:∀ {l:List UInt8}{c:UInt8}{n:Nat},Lib.indexByte l c=(n:Int)→Lib.indexByte (l.take (n+1)) c=(n:Int)
 | [],_,n,h=>by simp [Lib.indexByte] at h
 | b::l,c,n,h=>by
  rw [List.take_succ_cons,Lib.indexByte];rw [Lib.indexByte] at h;split at h
  ·rename_i hb;rw [if_pos hb];exact h
  ·rename_i hb;rw [if_neg hb];split at h
   ·omega
   ·rename_i hl;have hge:=Lib.indexByte_ge l c;have hne:Lib.indexByte l c≠-1:=fun e=>hl (beq_iff_eq.2 e)
    obtain⟨o,rfl⟩:∃ o,n=o+1:=⟨n - 1,by omega⟩;have hi:=IU (l:=l) (c:=c) (n:=o) (by omega);rw [hi,if_neg (by simp <;> omega)];omega
theorem zS (l:List UInt8) (base:Int):∀ (f:Nat) (q:Qs) (n:Int),q.k≤(TA l base f q n).2.k
 | 0,q,n=>Nat.le_refl _
 | f+1,q,n=>by
  rw [TA];split
  ·exact Nat.le_refl _
  ·have:q.k+1≤_:=zS l base f ⟨q.k+1,q.out,q.bad⟩ (n*base+nD l q.k);omega
theorem OM {m:UInt8}{n:Int}{ch:Bool}{q:Qs} (h:(ED m n ch q).bad=false):q.bad=false:=by
 unfold ED at h;split at h
 ·exact h
 ·split at h
  ·cases h
  ·exact h
theorem WG {m:UInt8}:∀ {f it:Nat}{q q2:Qs},jC l m f it q=(true,q2)→q.bad=false
 | 0,it,q,q2,h=>by rw [jC] at h;cases h
 | f+1,it,q,q2,h=>by
  rw [jC] at h;split at h
  ·split at h
   ·cases h
   ·rename_i c;simpa using c
  ·cases h
end
section
variable {l:List UInt8}{a b:Nat}
theorem GJ {i:Nat} (h1:a≤i) (h2:i < b):((l.take b).drop a)[i - a]?=l[i]?:=by
 rw [List.getElem?_drop,show a+(i - a)=i by omega,List.getElem?_take,if_pos h2]
theorem eJ (h:b≤l.length):((l.take b).drop a).length=b - a:=by
 rw [List.length_drop,List.length_take,Nat.min_eq_left h]
theorem mL {i:Nat} (h1:a≤i):((l.take b).drop a).drop (i - a)=(l.drop i).take (b - i):=by
 rw [List.drop_drop,show a+(i - a)=i by omega,List.drop_take]
def shQ (a:Nat) (q:Qs):Qs:=⟨q.k - a,q.out,q.bad⟩
theorem BT {k:Nat} (hb:b≤l.length) (h1:a≤k) (h2:k < b):nD ((l.take b).drop a) (k - a)=nD l k:=by
 unfold nD Num.bat;rw [eJ hb,if_pos (by omega),if_pos (by omega),GJ h1 h2]
theorem sL (hb:b≤l.length) (base:Int):∀ (f:Nat) (q:Qs) (n:Int),a≤q.k→(TA l base f q n).2.bad=false→(TA l base f q n).2.k≤b→TA ((l.take b).drop a) base f (shQ a q) n=((TA l base f q n).1,shQ a (TA l base f q n).2)
 | 0,q,n,_,_,_=>rfl
 | f+1,q,n,ha,h1,h2=>by
  rw [TA] at h1 h2;by_cases c:nD l q.k < 0∨base≤nD l q.k
  ·rw [if_pos c] at h1;cases h1
  rw [if_neg c] at h1 h2;have hu:q.k+1≤_:=zS l base f ⟨q.k+1,q.out,q.bad⟩ (n*base+nD l q.k);have hd:nD ((l.take b).drop a) (shQ a q).k=nD l q.k:=BT hb ha (by omega);have e:(⟨(shQ a q).k+1,(shQ a q).out,(shQ a q).bad⟩:Qs)=shQ a ⟨q.k+1,q.out,q.bad⟩:=by
   show (⟨q.k - a+1,q.out,q.bad⟩:Qs)=⟨q.k+1 - a,q.out,q.bad⟩
   rw [show q.k - a+1=q.k+1 - a by omega]
  rw [TA,hd,if_neg c,e,sL hb base f _ _ (by show a≤q.k+1;omega) h1 h2,TA,if_neg c]
theorem PO (m:UInt8) (n:Int) (ch:Bool) (q:Qs):ED m n ch (shQ a q)=shQ a (ED m n ch q):=by
 unfold ED;split
 ·rfl
 ·split <;> rfl
theorem nM (hb:b≤l.length) {m:UInt8}{ch:Bool}{base:Int}{f:Nat}{q:Qs} (ha:a≤q.k) (h1:(ED m (TA l base f q 0).1 ch (TA l base f q 0).2).bad=false) (h2:(ED m (TA l base f q 0).1 ch (TA l base f q 0).2).k≤b) :
  ED m (TA ((l.take b).drop a) base f (shQ a q) 0).1 ch (TA ((l.take b).drop a) base f (shQ a q) 0).2=shQ a (ED m (TA l base f q 0).1 ch (TA l base f q 0).2):=by
 have hk:=(WH m (TA l base f q 0).1 ch (TA l base f q 0).2).1;rw [sL hb base f q 0 ha (OM h1) (by omega),PO]
theorem RO (hb:b≤l.length) {m:UInt8}{q:Qs} (ha:a≤q.k) (hk:q.k < b) (h1:(zC l m q).bad=false) (h2:(zC l m q).k≤b):zC ((l.take b).drop a) m (shQ a q)=shQ a (zC l m q):=by
 have hq:q.k < l.length:=by omega
 have hq':(shQ a q).k < ((l.take b).drop a).length:=by rw [eJ hb];show q.k - a < b - a;omega
 have hg:((l.take b).drop a)[(shQ a q).k]'hq'=l[q.k]:=by
  have this:((l.take b).drop a)[(shQ a q).k]?=l[q.k]?:=GJ ha hk;rw [List.getElem?_eq_getElem hq,List.getElem?_eq_getElem hq'] at this;exact Option.some.inj this
 have e:(⟨(shQ a q).k+1,(shQ a q).out,(shQ a q).bad⟩:Qs)=shQ a ⟨q.k+1,q.out,q.bad⟩:=by
  show (⟨q.k - a+1,q.out,q.bad⟩:Qs)=⟨q.k+1 - a,q.out,q.bad⟩
  rw [show q.k - a+1=q.k+1 - a by omega]
 have e':∀ x,(⟨(shQ a q).k+1,(shQ a q).out++x,(shQ a q).bad⟩:Qs)=shQ a ⟨q.k+1,q.out++x,q.bad⟩:=fun x=>by
  show (⟨q.k - a+1,q.out++x,q.bad⟩:Qs)=⟨q.k+1 - a,q.out++x,q.bad⟩
  rw [show q.k - a+1=q.k+1 - a by omega]
 have ha':a≤(⟨q.k+1,q.out,q.bad⟩:Qs).k:=by show a≤q.k+1;omega
 unfold zC at h1 h2 ⊢;rw [dif_pos hq] at h1 h2;rw [dif_pos hq,dif_pos hq',hg];split at h1
 ·rename_i c;rw [if_pos c,if_pos c];exact e' _
 ·rename_i c;rw [if_neg c] at h2;rw [if_neg c,if_neg c];split at h1
  ·rename_i c;rw [if_pos c,if_pos c];exact e' _
  ·rename_i c;rw [if_neg c] at h2;rw [if_neg c,if_neg c];split at h1
   ·rename_i c;rw [if_pos c] at h2;rw [if_pos c,if_pos c,e];exact nM hb ha' h1 h2
   ·rename_i c;rw [if_neg c] at h2;rw [if_neg c,if_neg c];split at h1
    ·rename_i c;rw [if_pos c] at h2;rw [if_pos c,if_pos c,e];exact nM hb ha' h1 h2
    ·rename_i c;rw [if_neg c] at h2;rw [if_neg c,if_neg c];split at h1
     ·rename_i c;rw [if_pos c] at h2;rw [if_pos c,if_pos c,e];exact nM hb ha' h1 h2
     ·rename_i c;rw [if_neg c] at h2;rw [if_neg c,if_neg c];have hb1:=OM h1;simp only [Bool.or_eq_false_iff] at hb1;have hk1:=(WH m ((TA l 8 3 q 0).1 % 256) false ⟨(TA l 8 3 q 0).2.k,(TA l 8 3 q 0).2.out,(TA l 8 3 q 0).2.bad||decide (255 < (TA l 8 3 q 0).1)⟩).1;rw [hk1] at h2;rw [sL hb 8 3 q 0 ha hb1.1 h2];exact PO (a:=a) m _ false ⟨(TA l 8 3 q 0).2.k,(TA l 8 3 q 0).2.out,(TA l 8 3 q 0).2.bad||decide (255 < (TA l 8 3 q 0).1)⟩
theorem tQ (hb:b≤l.length) {m:UInt8}{k:Nat} (ha:a≤k) (hk:k < b) (h0:vD l m k≠0) (h2:k+vD l m k≤b):vD ((l.take b).drop a) m (k - a)=vD l m k:=by
 unfold vD at h0 h2 ⊢;split
 ·rename_i c;rw [if_pos c] at h0 h2;have hne:l.drop k≠[]:=by intro e;have:=congrArg List.length e;simp at this;omega
  have q0:vB l (k:Int)=if (dec (l.drop k)).1=65533∧(dec (l.drop k)).2 < 2 then (0,0) else (((dec (l.drop k)).1:Int),((dec (l.drop k)).2:Int)):=by
   unfold vB;rw [if_neg (by omega),Int.toNat_natCast]
  by_cases cr:(dec (l.drop k)).1=65533∧(dec (l.drop k)).2 < 2
  ·rw [q0,if_pos cr] at h0;exact absurd rfl h0
  rw [q0,if_neg cr] at h0 h2;simp only [Int.toNat_natCast] at h0 h2;have e:dec (((l.take b).drop a).drop (k - a))=dec (l.drop k):=by
   rw [mL ha];exact SM hne (by omega) (by rw [List.length_drop];omega) (by omega)
  have q1:vB ((l.take b).drop a) ((k - a:Nat):Int)=(((dec (l.drop k)).1:Int),((dec (l.drop k)).2:Int)):=by
   unfold vB;rw [if_neg (by rw [eJ hb];omega),Int.toNat_natCast,e,if_neg cr]
  rw [q1,q0,if_neg cr]
 ·rfl
theorem sQ (hb:b≤l.length) {m:UInt8}{q:Qs} (ha:a≤q.k) (hk:q.k < b) (h1:(PD l m q).bad=false) (h2:(PD l m q).k≤b):PD ((l.take b).drop a) m (shQ a q)=shQ a (PD l m q):=by
 unfold PD at h1 h2 ⊢;simp only [Bool.or_eq_false_iff,decide_eq_false_iff_not] at h1 h2;have e:=tQ hb ha hk h1.1 h2
 show (⟨q.k - a+vD ((l.take b).drop a) m (q.k - a),q.out++(((l.take b).drop a).drop (q.k - a)).take (vD ((l.take b).drop a) m (q.k - a)),decide (vD ((l.take b).drop a) m (q.k - a)=0)||decide (((l.take b).drop a)[q.k - a]?.getD 0=10)⟩:Qs)=⟨q.k+vD l m q.k - a,q.out++(l.drop q.k).take (vD l m q.k),decide (vD l m q.k=0)||decide (l[q.k]?.getD 0=10)⟩
 rw [e,GJ ha hk,mL ha,List.take_take,Nat.min_eq_left (by omega),show q.k - a+vD l m q.k=q.k+vD l m q.k - a by omega]
theorem PG (hb:b≤l.length) {m:UInt8}:∀ (f f' it:Nat) (q q2:Qs),jC l m f it q=(true,q2)→q2.k≤b→a≤q.k→b - q.k≤f'→jC ((l.take b).drop a) m f' it (shQ a q)=(true,shQ a q2)∧q.k < q2.k
 | 0,f',it,q,q2,h,_,_,_=>by rw [jC] at h;cases h
 | f+1,f',it,q,q2,h,h2,ha,hf=>by
  have hgd:=WG h;rw [jC] at h;split at h
  ·rename_i hq;have key:q.k < b→∃ g,f'=g+1∧∃ hq':(shQ a q).k < ((l.take b).drop a).length,((l.take b).drop a)[(shQ a q).k]'hq'=l[q.k]:=fun hk=>by
    have hq':(shQ a q).k < ((l.take b).drop a).length:=by rw [eJ hb];show q.k - a < b - a;omega
    refine⟨f' - 1,by omega,hq',?_⟩;have this:((l.take b).drop a)[(shQ a q).k]?=l[q.k]?:=GJ ha hk;rw [List.getElem?_eq_getElem hq,List.getElem?_eq_getElem hq'] at this;exact Option.some.inj this
   have hgd':¬ (shQ a q).bad=true:=by rw [show (shQ a q).bad=q.bad from rfl,hgd];decide
   rw [if_neg (by rw [hgd];decide)] at h;split at h
   ·rename_i c;have h1:(decide (m=34)||decide (it=1))=true:=congrArg Prod.fst h;have h3:q2=⟨q.k+1,q.out,q.bad⟩:=(congrArg Prod.snd h).symm;subst h3;have h4:q.k+1≤b:=h2;obtain⟨g,rfl,hq',hg⟩:=key (by omega);refine⟨?_,Nat.lt_succ_self _⟩;rw [jC,dif_pos hq',if_neg hgd',hg,if_pos c,h1]
    show (true,(⟨q.k - a+1,q.out,q.bad⟩:Qs))=(true,⟨q.k+1 - a,q.out,q.bad⟩)
    rw [show q.k - a+1=q.k+1 - a by omega]
   ·rename_i c;split at h
    ·cases h
    ·rename_i c2;split at h
     ·rename_i c3;have hfa:=qG l m ⟨q.k+1,q.out,q.bad⟩ hq;have hfa1:q.k+1≤_:=hfa.1;have hlt:=(PG hb f (b - q.k) (it+1) _ q2 h h2 (by omega) (by omega)).2;obtain⟨g,rfl,hq',hg⟩:=key (by omega);obtain⟨hR,_⟩:=PG hb f g (it+1) _ q2 h h2 (by omega) (by omega);refine⟨?_,by omega⟩;have e:(⟨(shQ a q).k+1,(shQ a q).out,(shQ a q).bad⟩:Qs)=shQ a ⟨q.k+1,q.out,q.bad⟩:=by
       show (⟨q.k - a+1,q.out,q.bad⟩:Qs)=⟨q.k+1 - a,q.out,q.bad⟩
       rw [show q.k - a+1=q.k+1 - a by omega]
      rw [jC,dif_pos hq',if_neg hgd',hg,if_neg c,if_neg c2,if_pos c3,e,RO hb (by show a≤q.k+1;omega) (by show q.k+1 < b;omega) (WG h) (by omega)];exact hR
     ·rename_i c3;have hfa:=SG l m q hq;have hfb:=hfa.2.2.2 (WG h);have hlt:=(PG hb f (b - q.k) (it+1) _ q2 h h2 (by omega) (by omega)).2;obtain⟨g,rfl,hq',hg⟩:=key (by omega);obtain⟨hR,_⟩:=PG hb f g (it+1) _ q2 h h2 (by omega) (by omega);refine⟨?_,by omega⟩;rw [jC,dif_pos hq',if_neg hgd',hg,if_neg c,if_neg c2,if_neg c3,sQ hb ha (by omega) (WG h) (by omega)];exact hR
  ·cases h
theorem qT {k:Nat} (hk:k < l.length) (h:(YA l k).k≠0):(uG ((l.take (YA l k).tx.toNat).drop k)).2=0:=by
 obtain⟨kd,tx,e1,_,e2,e3,e4⟩:=oL l k hk h;simp only at e1 e2;rw [e2,Int.toNat_natCast];have hln:=eJ (a:=k) e4;have hl0:0 < ((l.take tx).drop k).length:=by omega
 have hg0:((l.take tx).drop k)[0]'hl0=l[k]:=by
  have:=GJ (l:=l) (a:=k) (b:=tx) (Nat.le_refl k) e3;rw [Nat.sub_self,List.getElem?_eq_getElem hk,List.getElem?_eq_getElem hl0] at this;exact Option.some.inj this
 unfold uG
 suffices hs:(YA ((l.take tx).drop k) 0).e=0∧(YA ((l.take tx).drop k) 0).tx=((l.take tx).drop k).length by rw [if_pos hs]
 unfold YA at h e2 ⊢;rw [dif_pos (by omega)] at h e2 ⊢;simp only [Int.toNat_natCast,Int.toNat_zero] at h e2 ⊢;simp only [hg0];by_cases h1:Lib.indexByte ([39,34,96]:List UInt8) l[k] < 0
 ·rw [if_pos h1] at h;exact absurd rfl h
 rw [if_neg h1] at h e2 ⊢;by_cases h2:l[k]=96
 ·rw [if_pos h2] at h e2 ⊢;by_cases h3:Lib.indexByte (l.drop (k+1)) 96 < 0
  ·rw [if_pos h3] at h;exact absurd rfl h
  rw [if_neg h3] at e2;obtain⟨n,hn⟩:=Int.eq_ofNat_of_zero_le (Int.not_lt.1 h3);rw [hn] at e2;simp only at e2;obtain⟨hs1,hs2⟩:=Lib.indexByte_some hn;have hi:Lib.indexByte (((l.take tx).drop k).drop 1) 96=(n:Int):=by
   have e:((l.take tx).drop k).drop 1=(l.drop (k+1)).take (n+1):=by
    have:=mL (l:=l) (a:=k) (b:=tx) (i:=k+1) (Nat.le_succ k);rw [show k+1 - k=1 by omega] at this;rw [this,show tx - (k+1)=n+1 by omega]
   rw [e];exact IU hn
  rw [Nat.zero_add,hi,if_neg (by omega),hln];exact⟨rfl,by show (0:Int)+n+2=_;omega⟩
 rw [if_neg h2] at h e2 ⊢;by_cases h3:(jC l l[k] l.length 0 ⟨k+1,[],false⟩).1=true
 ·rw [if_pos h3] at e2;have hq2:(jC l l[k] l.length 0 ⟨k+1,[],false⟩).2.k=tx:=by simp only at e2;omega
  have hR:=(PG (a:=k) e4 l.length ((l.take tx).drop k).length 0 ⟨k+1,[],false⟩ (jC l l[k] l.length 0 ⟨k+1,[],false⟩).2 (Prod.ext h3 rfl) (by omega) (Nat.le_succ k) (by show tx - (k+1)≤_;omega)).1;have e:shQ k ⟨k+1,[],false⟩=⟨0+1,[],false⟩:=by unfold shQ;simp
  rw [e] at hR;rw [hR,if_pos rfl,hln];refine⟨rfl,?_⟩
  show (((jC l l[k] l.length 0 ⟨k+1,[],false⟩).2.k - k:Nat):Int)=_
  rw [hq2]
 ·rw [if_neg h3] at h;exact absurd rfl h
end
section
theorem fU:∀ n:Fin 69,gD (n.val:Int)=(((arT (UInt8.ofNat n.val)).1:Int),(arT (UInt8.ofNat n.val)).2):=by decide +kernel
theorem kV {k:UInt8} (h:k≤68):gD (k.toNat:Int)=(((arT k).1:Int),(arT k).2):=by
 have h2:k.toNat≤68:=h;have:=fU ⟨k.toNat,by omega⟩;simpa using this
theorem eX {k:UInt8}{n:Nat}{w:List UInt8} (hk:k≤68) (hn:okN k n=true) (hw:AC k.toNat w=true):AE ⟨k,n,w⟩=true:=by
 have h2:k.toNat≤68:=hk;unfold AE;simp only [kV hk,hw,Bool.and_true];unfold okN at hn;generalize arT k=ar at *;obtain⟨least,more⟩:=ar;simp only [Bool.or_eq_true,beq_iff_eq,Bool.and_eq_true,decide_eq_true_eq] at hn;simp only [Bool.and_eq_true,Bool.not_eq_true',decide_eq_false_iff_not,Bool.and_eq_false_iff,Bool.not_eq_false'];rcases hn with rfl|⟨rfl,hn⟩
 ·exact⟨⟨by omega,by omega⟩,.inl (by omega)⟩
 ·exact⟨⟨by omega,by omega⟩,.inr rfl⟩
def bS (E:Env):Prop:=∀ k wd,gB E k wd=true→AC (k.toNat:Int) (lD E k wd)=true
mutual
theorem TM (E:Env) (hE:bS E):∀ t:Tr,UB t→Sh t→Sp E t→∀ x∈parts E t,AE (ptG x)=true
 | .mk k wd f t ks,h1,h2,h3,x,hx=>by
  rw [parts,List.mem_cons] at hx;rcases hx with rfl|hx
  ·exact eX h1.1 h2.1 (hE k wd h3.1)
  ·exact jM E hE ks wd f t h1.2.2.2 h2.2 h3.2 x hx
theorem jM (E:Env) (hE:bS E):∀ (ts:List Tr) (wd:Int) (lo hi:Nat),iA wd lo hi ts→Shs ts→Sps E ts→∀ x∈kC E ts,AE (ptG x)=true
 | [],_,_,_,_,_,_,x,hx=>by rw [kC] at hx;cases hx
 | t::ts,wd,lo,hi,h1,h2,h3,x,hx=>by
  rw [kC,List.mem_append] at hx;rcases hx with hx|hx
  ·exact TM E hE t h1.2.2.1 h2.1 h3.1 x hx
  ·exact jM E hE ts wd _ hi h1.2.2.2 h2.2 h3.2 x hx
end
theorem TP (E:Env) (hE:bS E) {t:Tr} (h1:UB t) (h2:Sh t) (h3:Sp E t):fF ((parts E t).map ptG)=true:=by
 unfold fF;have e:((parts E t).map ptG).map Grd.Pt.n=zI (parts E t):=by
  rw [List.map_map];rfl
 rw [e,VR,Bool.true_and,List.all_eq_true];intro p hp;obtain⟨x,hx,rfl⟩:=List.mem_map.1 hp;exact TM E hE t h1 h2 h3 x hx
end
section
def tkW (s:List UInt8) (t:Tk):List UInt8:=(s.take t.to).drop t.fr
structure mH (s:List UInt8) (t:Tk):Prop where
 name:t.kind=1→VM (tkW s t)=true
 lit:3≤t.kind.toNat→t.kind.toNat≤7→(uG (tkW s t)).2=0∨Num.yE (tkW s t)≠0
variable {E:Env}
theorem yS {n:Nat}{t:Tk} (h:E.l[n]?=some t):E.text (n:Int)=tkW E.s t:=by
 unfold Env.text;rw [if_neg (by omega),Int.toNat_natCast,h];rfl
theorem VY {n:Nat}{t:Tk} (h:E.l[n]?=some t):E.kind (n:Int)=t.kind:=by
 unfold Env.kind;rw [if_neg (by omega),Int.toNat_natCast,h]
theorem CT {wd:Int}{w:List UInt8} (h:E.word wd=w) (h0:w≠[]) (h1:w≠[59]):E.text wd=w:=by
 unfold Env.word at h;unfold Env.text;by_cases hn:wd < 0
 ·rw [if_pos hn] at h;exact absurd h.symm h0
 rw [if_neg hn] at h ⊢;cases hl:E.l[wd.toNat]? with
 | none=>rw [hl] at h;exact absurd h.symm h0
 | some t =>
  rw [hl] at h;simp only at h ⊢;split at h
  ·exact absurd h.symm h1
  ·split at h
   ·exact h
   ·exact absurd h.symm h0
theorem MV:∀ n:Fin 256,n.val≠26→n.val≠27→spW (UInt8.ofNat n.val) []=true→n.val≠45∧AC (n.val:Int) []=true:=by decide +kernel
theorem dP {k:UInt8} (h6:k≠26) (h7:k≠27) (h:spW k []=true):k≠45∧AC (k.toNat:Int) []=true:=by
 have:=MV ⟨k.toNat,k.toNat_lt⟩ (fun e=>h6 (UInt8.toNat_inj.1 e)) (fun e=>h7 (UInt8.toNat_inj.1 e)) (by simpa using h);exact⟨fun e=>this.1 (by subst e;rfl),this.2⟩
theorem EP {w:List UInt8} (h:1≤DD w):w∈[[124,124],[38,38],[61,61],[33,61],[60],[60,61],[62],[62,61],[43],[45],[124],[94],[42],[47],[37],[60,60],[62,62],[38],[38,94]]:=by
 unfold DD at h;simp only [List.mem_cons,List.not_mem_nil,or_false];by_cases h1:w=[124,124]
 ·exact .inl h1
 rw [if_neg h1] at h;by_cases h2:w=[38,38]
 ·exact .inr (.inl h2)
 rw [if_neg h2] at h;split at h
 ·rename_i c;rcases c with c|c|c|c|c|c <;> simp [c]
 ·split at h
  ·rename_i c;rcases c with c|c|c|c <;> simp [c]
  ·split at h
   ·rename_i c;rcases c with c|c|c|c|c|c|c <;> simp [c]
   ·omega
def ZH (k:UInt8):List (List UInt8) :=
 if k=3∨k=4 then [[105,109,112,111,114,116],[99,111,110,115,116],[118,97,114],[116,121,112,101]]
 else if k=36 then [[43],[45],[33],[94],[38],[60,45]]
 else if k=37 then [[124,124],[38,38],[61,61],[33,61],[60],[60,61],[62],[62,61],[43],[45],[124],[94],[42],[47],[37],[60,60],[62,62],[38],[38,94]]
 else if k=45 then [[99,104,97,110],[60,45]]
 else if k=52 then [[43,43],[45,45]]
 else if k=53 then [[61],[58,61],[43,61],[45,61],[42,61],[47,61],[37,61],[38,61],[124,61],[94,61],[60,60,61],[62,62,61],[38,94,61]]
 else if k=57 then [[98,114,101,97,107],[99,111,110,116,105,110,117,101],[103,111,116,111],[102,97,108,108,116,104,114,111,117,103,104]]
 else if k=5 then [[46]] else if k=7 then [[61]] else if k=15∨k=34 then [[46,46,46]] else if k=66 then [[61],[58,61]] else []
theorem vT {k:UInt8}{w:List UInt8} (h0:w≠[]) (h:spW k w=true):w∈ZH k:=by
 have hf:(w==[])=false:=by simpa using h0
 unfold spW at h;unfold ZH;by_cases c0:k=3∨k=4
 ·rw [if_pos c0] at h ⊢;simpa using h
 rw [if_neg c0] at h ⊢;by_cases c1:k=36
 ·rw [if_pos c1] at h ⊢;simpa using h
 rw [if_neg c1] at h ⊢;by_cases c2:k=37
 ·rw [if_pos c2] at h ⊢;exact EP (of_decide_eq_true h)
 rw [if_neg c2] at h ⊢;by_cases c3:k=45
 ·rw [if_pos c3] at h ⊢;simpa using h
 rw [if_neg c3] at h ⊢;by_cases c4:k=52
 ·rw [if_pos c4] at h ⊢;simpa using h
 rw [if_neg c4] at h ⊢;by_cases c5:k=53
 ·rw [if_pos c5] at h ⊢;unfold assigns at h;simpa using h
 rw [if_neg c5] at h ⊢;by_cases c6:k=57
 ·rw [if_pos c6] at h ⊢;simpa using h
 rw [if_neg c6] at h ⊢;by_cases c7:k=5
 ·rw [if_pos c7] at h ⊢;simpa [hf] using h
 rw [if_neg c7] at h ⊢;by_cases c8:k=7
 ·rw [if_pos c8] at h ⊢;simpa [hf] using h
 rw [if_neg c8] at h ⊢;by_cases c9:k=15∨k=34
 ·rw [if_pos c9] at h ⊢;simpa [hf] using h
 rw [if_neg c9] at h ⊢;by_cases c10:k=66
 ·rw [if_pos c10] at h ⊢;simpa [hf] using h
 rw [if_neg c10] at h ⊢;rw [hf] at h;cases h
theorem MT:∀ n:Fin 256,∀ w∈ZH (UInt8.ofNat n.val),w≠[59]∧(n.val≠45→AC (n.val:Int) w=true):=by decide +kernel
theorem IM {wd:Int}{c:UInt8} (h:E.kind wd=c) (h0:c≠0):∃ (n:Nat) (t:Tk),wd=(n:Int)∧E.l[n]?=some t∧t.kind=c:=by
 unfold Env.kind at h;by_cases hn:wd < 0
 ·rw [if_pos hn] at h;exact absurd h.symm h0
 rw [if_neg hn] at h;obtain⟨n,rfl⟩:=Int.eq_ofNat_of_zero_le (Int.not_lt.1 hn);rw [Int.toNat_natCast] at h;cases hl:E.l[n]? with
 | none=>rw [hl] at h;exact absurd h.symm h0
 | some t=>rw [hl] at h;exact⟨n,t,rfl,hl,h⟩
theorem YU (hT:∀ t∈E.l,mH E.s t):bS E:=by
 intro k wd h;by_cases h26:k=26
 ·subst h26;have h1:E.named wd=true:=h;obtain⟨n,t,rfl,ht,hk⟩:=IM (eq_of_beq h1) (by decide);have e:lD E 26 (n:Int)=tkW E.s t:=by unfold lD;rw [if_neg (by decide)];exact yS ht
  rw [e];exact (hT t (List.mem_of_getElem? ht)).name hk
 by_cases h27:k=27
 ·subst h27;have h1:E.literal wd=true:=h;unfold Env.literal at h1;simp only [Bool.and_eq_true,decide_eq_true_eq] at h1;obtain⟨n,t,rfl,ht,hk⟩:=IM (E:=E) (wd:=wd) rfl (fun e=>by rw [e] at h1;exact absurd h1.1 (by decide));rw [← hk] at h1;have e:lD E 27 (n:Int)=tkW E.s t:=by unfold lD;rw [if_neg (by decide)];exact yS ht
  rw [e];have:=(hT t (List.mem_of_getElem? ht)).lit h1.1 h1.2
  show ((uG (tkW E.s t)).2==0||Num.yE (tkW E.s t) != 0)=true
  rcases this with h|h
  ·rw [h];rfl
  ·rw [Bool.or_eq_true];right;simpa using h
 unfold gB at h;rw [if_neg h26,if_neg h27] at h;by_cases h0:wd=-1
 ·subst h0;rw [if_pos rfl] at h;obtain⟨h45,hs⟩:=dP h26 h27 h;have e:lD E k (-1)=[]:=by unfold lD;rw [if_neg h45];rfl
  rw [e];exact hs
 rw [if_neg h0] at h;simp only [Bool.and_eq_true,bne_iff_ne,ne_eq,decide_eq_true_eq] at h;obtain⟨⟨h1,h2⟩,h3⟩:=h;have hm:=vT h2 h3;obtain⟨h4,h5⟩:=MT ⟨k.toNat,k.toNat_lt⟩ (E.word wd) (by simpa using hm);have ht:=CT (E:=E) (wd:=wd) rfl h2 h4;by_cases h45:k=45
 ·subst h45;have hw:E.word wd=[99,104,97,110]∨E.word wd=[60,45]:=by simpa [ZH] using hm
  unfold lD;rw [if_pos rfl,ht];rcases hw with hw|hw
  ·rw [hw];rw [if_neg (by decide)];split <;> decide +kernel
  ·rw [hw,if_pos rfl];decide +kernel
 ·have e:lD E k wd=E.word wd:=by unfold lD;rw [if_neg h45];exact ht
  rw [e];exact h5 (fun e=>h45 (UInt8.toNat_inj.1 e))
end
section
theorem WY (s:List UInt8) (t:Tk) (h:t.fr≤t.to):tkW s t=(s.drop t.fr).take (t.to - t.fr):=by unfold tkW;rw [List.drop_take]
theorem qR:oB 65533=false:=by decide
theorem kT:digitB 65533=false:=by decide
theorem iM (T:List UInt8):∀ (f p:Nat),p≤T.length→T.length≤p+f→(p=0→oB (dec T).1=true) →
  (∀ g,rH (T.take (VA T f p)) g p=true)∧(∀ g,DE (T.take (VA T f p)) g p=-1)
 | 0,p,h1,h2,_=>by
  rw [VA,List.take_length];exact⟨fun g=>dI (by omega),fun g=>YF (by omega)⟩
 | f+1,p,h1,h2,h3=>by
  by_cases hp:p < T.length
  ·have hne:T.drop p≠[]:=by intro e;have:=congrArg List.length e;simp only [List.length_drop,List.length_nil] at this;omega
   have hw:=EJ hne;simp only [List.length_drop] at hw;have hpos:=eG hne;by_cases c:(oB (dec (T.drop p)).1||digitB (dec (T.drop p)).1)=true
   ·have e:VA T (f+1) p=VA T f (p+(dec (T.drop p)).2):=by rw [VA,if_pos hp,if_pos c]
    have hge:=SH T f (p+(dec (T.drop p)).2) (by omega);have hle:=XH T f (p+(dec (T.drop p)).2) (by omega);obtain⟨i1,i2⟩:=iM T f (p+(dec (T.drop p)).2) (by omega) (by omega) (fun e=>by omega);rw [e];generalize VA T f (p+(dec (T.drop p)).2)=W at *;have hr:(dec (T.drop p)).1≠65533:=fun e=>by
     rw [e] at c;have h1:=qR;have h2:=kT;exact absurd c (by rw [show ((65533:Nat):Int)=65533 from rfl,h1,h2];decide)
    have hd:dec ((T.take W).drop p)=dec (T.drop p):=by
     rw [List.drop_take];exact SM hne (by omega) (by rw [List.length_drop];omega) (.inl hr)
    have hpl:p < (T.take W).length:=by rw [List.length_take];omega
    refine⟨fun g=>?_,fun g=>?_⟩
    ·cases g with
     | zero=>rfl
     | succ g =>
      rw [rH,if_pos hpl,hd];have hc:(oB (dec (T.drop p)).1||(decide (p≠0)&&digitB (dec (T.drop p)).1))=true:=by
       by_cases h0:p=0
       ·subst h0;rw [List.drop_zero,h3 rfl];rfl
       ·have:decide (p≠0)=true:=decide_eq_true h0;rw [this,Bool.true_and];exact c
      rw [if_pos hc];exact i1 g
    ·cases g with
     | zero=>rfl
     | succ g =>
      rw [DE,if_pos hpl,hd,if_neg (fun h=>hr h.1)];exact i2 g
   ·have e:VA T (f+1) p=p:=by rw [VA,if_pos hp,if_neg c]
    rw [e];have hn:¬ p < (T.take p).length:=by rw [List.length_take];omega
    exact⟨fun g=>dI hn,fun g=>YF hn⟩
  ·have e:VA T (f+1) p=T.length:=by rw [VA,if_neg hp]
   rw [e,List.take_length];exact⟨fun g=>dI (by omega),fun g=>YF (by omega)⟩
theorem lP (l:List UInt8) (a:Int):(YA l a).k=0∨(YA l a).k=6∨(YA l a).k=7:=by
 unfold YA;split
 ·split
  ·exact .inl rfl
  ·split
   ·split
    ·exact .inl rfl
    ·exact .inr (.inr rfl)
   ·split
    ·simp only;split
     ·exact .inr (.inr rfl)
     ·exact .inr (.inl rfl)
    ·exact .inl rfl
 ·exact .inl rfl
theorem wX (l:List UInt8) (k:Nat) (hk:k < l.length) (h:(cB l k).1≠0):mH l (xH l k):=by
 obtain⟨f1,f2,f3,f4⟩:=fM hk h;have hne:l.drop k≠[]:=by intro e;have:=congrArg List.length e;simp only [List.length_drop,List.length_nil] at this;omega
 have key:∀ (kd:UInt8) (t:Nat),cB l k=((kd.toNat:Int),(t:Int))→(xH l k).kind=kd∧tkW l (xH l k)=(l.take t).drop k:=fun kd t e=>by
  rw [e] at f1 f2;have a:(xH l k).kind=kd:=UInt8.toNat_inj.1 (by simp only at f1;omega);have b:(xH l k).to=t:=by simp only at f2;omega
  exact⟨a,by unfold tkW;rw [b];rfl⟩
 have other:∀ (kd:UInt8) (t:Nat),cB l k=((kd.toNat:Int),(t:Int))→kd≠1→(7 < kd.toNat∨kd.toNat < 3)→mH l (xH l k):=fun kd t e h1 h2=>by
  obtain⟨a,_⟩:=key kd t e;exact⟨fun e=>absurd (a.symm.trans e) h1,fun h3 h4=>by rw [a] at h3 h4;omega⟩
 obtain⟨KD,TT,g1,g2,g3,g4,g5⟩:=qN l k hk h;have hkk:cB l k=((KD.toNat:Int),(TT:Int)):=Prod.ext g1 g3;unfold cB at h;by_cases c0:((vB l k).1==65279)=true
 ·have e:cB l k=(10,k+(vB l k).2):=by unfold cB;rw [if_pos c0]
  have:KD=10:=UInt8.toNat_inj.1 (by rw [e] at g1;show KD.toNat=10;simp only at g1;omega);subst this;exact other 10 TT hkk (by decide) (.inl (by decide))
 rw [if_neg c0] at h;by_cases c1:RI (vB l k).1=true
 ·have e:(cB l k).1=10:=by unfold cB;rw [if_neg c0,if_pos c1]
  have:KD=10:=UInt8.toNat_inj.1 (by rw [e] at g1;show KD.toNat=10;omega);subst this;exact other 10 TT hkk (by decide) (.inl (by decide))
 rw [if_neg c1] at h;by_cases c2:Lib.hasPrefix (l.drop k) [47,47]=true
 ·have e:(cB l k).1=11:=by unfold cB;rw [if_neg c0,if_neg c1,if_pos c2];split <;> rfl
  have:KD=11:=UInt8.toNat_inj.1 (by rw [e] at g1;show KD.toNat=11;omega);subst this;exact other 11 TT hkk (by decide) (.inl (by decide))
 rw [if_neg c2] at h;by_cases c3:Lib.hasPrefix (l.drop k) [47,42]=true
 ·have e:(cB l k).1=12:=by
   unfold cB;rw [if_neg c0,if_neg c1,if_neg c2,if_pos c3];rw [if_pos c3] at h;split
   ·rfl
   ·rename_i c;rw [if_neg c] at h;exact absurd rfl h
  have:KD=12:=UInt8.toNat_inj.1 (by rw [e] at g1;show KD.toNat=12;omega);subst this;exact other 12 TT hkk (by decide) (.inl (by decide))
 rw [if_neg c3] at h;by_cases c4:oB (vB l k).1=true
 ·have e:cB l k=(uI l k,((k+tF (l.drop k):Nat):Int)):=by unfold cB;rw [if_neg c0,if_neg c1,if_neg c2,if_neg c3,if_pos c4]
  by_cases hw:iJ ((l.drop k).take (tF (l.drop k)))=true
  ·have e2:uI l k=2:=by unfold uI;rw [if_pos hw]
   rw [e2] at e;exact other 2 _ e (by decide) (.inr (by decide))
  ·have e2:uI l k=1:=by unfold uI;rw [if_neg hw]
   rw [e2] at e;obtain⟨a,b⟩:=key 1 _ e;refine⟨fun _=>?_,fun h3=>by rw [a] at h3;exact absurd h3 (by decide)⟩;have hz:oB 0=false:=by decide
   have hr:=(eH hk (fun e=>by rw [e,hz] at c4;cases c4)).1;rw [b,List.drop_take,Nat.add_sub_cancel_left];have hT:tF (l.drop k)=VA (l.drop k) (l.drop k).length 0:=rfl;have hl:oB (dec (l.drop k)).1=true:=by rw [← hr];exact c4
   obtain⟨i1,i2⟩:=iM (l.drop k) (l.drop k).length 0 (Nat.zero_le _) (by omega) (fun _=>hl);rw [← hT] at i1 i2;have hn0:(l.drop k).take (tF (l.drop k))≠[]:=fun e9=>by
    have h1:=congrArg List.length e9;simp only [List.length_take,List.length_drop,List.length_nil] at h1;have e5:(cB l k).2=((k+tF (l.drop k):Nat):Int):=by rw [e]
    rw [e5] at f2;omega
   unfold VM;rw [if_neg]
   ·exact i1 _
   ·rintro (h|h|h)
    ·exact hn0 (eq_of_beq h)
    ·exact hw h
    ·unfold ZJ at h;rw [i2] at h;exact absurd h (by decide)
 rw [if_neg c4] at h;by_cases c5:((vB l k).1==59)=true
 ·have e:cB l k=(9,(k:Int)+1):=by unfold cB;rw [if_neg c0,if_neg c1,if_neg c2,if_neg c3,if_neg c4,if_pos c5]
  have:KD=9:=UInt8.toNat_inj.1 (by rw [e] at g1;show KD.toNat=9;simp only at g1;omega);subst this;exact other 9 TT hkk (by decide) (.inl (by decide))
 rw [if_neg c5] at h;by_cases c6:((Num.YE l k).2.2 != 15)=true
 ·have e:cB l k=((Num.YE l k).1,(Num.YE l k).2.1):=by unfold cB;rw [if_neg c0,if_neg c1,if_neg c2,if_neg c3,if_neg c4,if_neg c5,if_pos c6]
  rw [if_pos c6] at h;unfold Num.YE at e h;by_cases hb:Num.eE l k=true
  ·rw [if_pos hb] at e h;simp only [Int.toNat_natCast] at e h;unfold Num.OG at e h;simp only at e h;by_cases hz:Num.yE ((l.drop k).take (Num.QH l (Num.bM l k) k - k))≠0
   ·rw [if_pos hz] at e;have e2:cB l k=((KD.toNat:Int),((Num.QH l (Num.bM l k) k:Nat):Int)):=by
     rw [e];refine Prod.ext ?_ rfl;rw [e] at g1;exact g1
    obtain⟨a,b⟩:=key KD _ e2;refine⟨fun e3=>?_,fun _ _=>.inr ?_⟩
    ·have hK:=nK ((l.drop k).take (Num.QH l (Num.bM l k) k - k));rw [e] at g1;simp only at g1;have:KD.toNat=1:=by rw [a] at e3;rw [e3];rfl
     omega
    ·rw [b,List.drop_take];exact hz
   ·rw [if_neg hz] at h;exact absurd rfl h
  ·rw [if_neg hb] at h;exact absurd rfl h
 rw [if_neg c6] at h;by_cases c7:((YA l k).e != 15)=true
 ·have e:cB l k=((YA l k).k,(YA l k).tx):=by unfold cB;rw [if_neg c0,if_neg c1,if_neg c2,if_neg c3,if_neg c4,if_neg c5,if_neg c6,if_pos c7]
  rw [if_pos c7] at h;have hv:=qT hk h;rw [e] at g1 g3;simp only at g1 g3;obtain⟨a,b⟩:=key KD TT hkk;rw [g3,Int.toNat_natCast,← b] at hv;refine⟨fun e3=>?_,fun _ _=>.inl hv⟩;have hK:=lP l k;have:KD.toNat=1:=by rw [a] at e3;rw [e3];rfl
  omega
 rw [if_neg c7] at h;by_cases c8:decide (0 < CG (l.drop k))=true
 ·have e:(cB l k).1=8:=by unfold cB;rw [if_neg c0,if_neg c1,if_neg c2,if_neg c3,if_neg c4,if_neg c5,if_neg c6,if_neg c7,if_pos c8]
  have:KD=8:=UInt8.toNat_inj.1 (by rw [e] at g1;show KD.toNat=8;omega);subst this;exact other 8 TT hkk (by decide) (.inl (by decide))
 ·rw [if_neg c8] at h;exact absurd rfl h
theorem dS (l:List UInt8):∀ (f k:Nat) (acc r:List Tk),VG l f k acc=.ok r→(∀ t∈acc,mH l t)→∀ t∈r,mH l t
 | 0,k,acc,r,h,ha=>by rw [VG] at h;cases h;exact ha
 | f+1,k,acc,r,h,ha=>by
  rw [VG] at h;split at h
  ·rename_i hkl;split at h
   ·cases h
   ·rename_i hz;refine dS l f _ _ r h (fun t ht=>?_);rw [List.mem_append,List.mem_singleton] at ht;rcases ht with ht|rfl
    ·exact ha t ht
    ·exact wX l k hkl hz
  ·cases h;exact ha
theorem IW (s:List UInt8) {t:Tk} (h:t.kind=9):mH s t:=⟨fun e=>absurd (h.symm.trans e) (by decide),fun _ h2=>by rw [h] at h2;exact absurd h2 (by decide)⟩
theorem XP (s:List UInt8) {st:Option Nat × List Tk} (h:∀ t∈st.2,mH s t):∀ t∈QD st,mH s t:=by
 obtain⟨E,out⟩:=st;intro t ht;cases E with
 | none=>exact h t ht
 | some n =>
  simp only [QD,List.mem_append,List.mem_singleton] at ht;rcases ht with ht|rfl
  ·exact h t ht
  ·exact IW s rfl
theorem ZP (s:List UInt8):∀ (l:List Tk) (st:Option Nat × List Tk),(∀ t∈l,mH s t)→(∀ t∈st.2,mH s t)→∀ t∈(jG s l st).2,mH s t
 | [],st,_,h=>h
 | x::l,st,h0,h=>by
  rw [jG];refine ZP s l _ (fun t ht=>h0 t (List.mem_cons_of_mem _ ht)) ?_;unfold GE;split
  ·split
   ·exact XP s h
   ·exact h
  ·intro t ht;simp only [List.mem_append,List.mem_singleton] at ht;rcases ht with ht|rfl
   ·exact h t ht
   ·exact h0 _ (List.mem_cons_self ..)
theorem oV {s:List UInt8}{l:List Tk} (h:wH s=.ok l):∀ t∈l,mH s t:=by
 unfold wH at h;split at h
 ·cases h
 ·rename_i l0 hA;cases h;refine XP s (ZP s l0 (none,[]) ?_ (fun t ht=>by cases ht));unfold cK at hA;split at hA
  ·cases hA
  ·split at hA
   ·cases hA
   ·exact dS s _ _ _ _ hA (fun t ht=>by cases ht)
theorem TU {s:List UInt8}{l:List Tk}{p:List Int} (h:kE s=.ok l p):wH s=.ok l:=by
 unfold kE at h;split at h
 ·cases h
 ·rename_i l2 p2 m hW;cases h;unfold FH at hW;split at hW
  ·cases hW
  ·rename_i l3 hS;obtain⟨h1,h2,h3⟩:=gJ hS;obtain⟨rfl,_⟩:=IG s l3 l3 0 _ _ _ _ hW (by simp) (by omega) (fun x hx=>by rw [List.eq_of_mem_replicate hx];decide) (fun x hx=>by cases hx) (by omega);exact hS
end
section
open Go.RowKit
variable {w:World}
structure qY (goal:UInt8) (s:List UInt8) (l:List Tk) (t:Tr):Prop where
 few:l.length≤131072
 fits:∀ x∈l,x.fr≤x.to∧x.to≤s.length
 short:s.length≤65536
 lies:UB t
 upto:t.to≤l.length
 cnt:cnt t≤20000005
 good:fF ((parts ⟨s,l,[]⟩ t).map ptG)=true
 spell:∃ p,Sp ⟨s,l,p⟩ t
theorem bX {s:List UInt8}{l:List Tk} (p p':List Int) (k:UInt8) (wd:Int):gB ⟨s,l,p⟩ k wd=gB ⟨s,l,p'⟩ k wd:=rfl
theorem GS {goal:UInt8}{s:List UInt8}{l:List Tk}{t:Tr} (h:tD kE goal s=.ok l t):qY goal s l t:=by
 obtain⟨p,m,hN,hT⟩:=MO h;have hS:=TU hN;obtain⟨h1,h2,h3⟩:=gJ hS;obtain⟨hL,hto⟩:=DQ hT;have hsp:=VO hT;refine⟨h2,fun x hx=>⟨(h1 x hx).1,(h1 x hx).2.1⟩,h3,hL,hto,UM gM h,?_,p,hsp⟩;rw [OI s l [] p];exact TP _ (YU (oV hS)) hL (gW hT) hsp
theorem sY {goal:UInt8}{s:List UInt8}{l:List Tk}{t:Tr} (h:tD kE goal s=.ok l t) {lo cap:Nat}{a:Option Addr} (hT:NC w) (hr:w.ownsRow lo 46 3 (.slice a (parts ⟨s,l,[]⟩ t).length cap) (parts ⟨s,l,[]⟩ t).length (CF (parts ⟨s,l,[]⟩ t))) :
  Calls Tryz.prog 22 #[.slice a (parts ⟨s,l,[]⟩ t).length cap] w (fun e w'=>e=.returned (.int .i64 0)∧Below w.heap.size w w'):=by
 have hk:=GS h;have hc:=hk.cnt;have hln:=nI ⟨s,l,[]⟩ t;have hw:=qF (w:=w) a cap ((parts ⟨s,l,[]⟩ t).map ptG) (by rw [List.length_map];omega) (qP hr rfl) (fun p hp=>by
  obtain⟨x,hx,rfl⟩:=List.mem_map.1 hp;exact Nat.le_trans (rL ⟨s,l,[]⟩ hk.short t x hx) (by decide)) hT
 rw [List.length_map,hk.good,if_pos rfl] at hw;exact hw
end
end Go.Proofs.YtfmpphplbdojbaaGreatDoor
