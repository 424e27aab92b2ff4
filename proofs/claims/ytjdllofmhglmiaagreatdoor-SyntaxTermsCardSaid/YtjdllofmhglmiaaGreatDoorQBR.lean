import Derived.Test.YtjdllofmhglmiaaGreatDoorQAJ
import Derived.Test.YtjdllofmhglmiaaGreatDoorQBQ
namespace Go.Proofs.YtjdllofmhglmiaaGreatDoor
set_option linter.all false
set_option maxHeartbeats 40000000
set_option maxRecDepth 100000
namespace Ck
open Go.RowKit
def dX2 (l:List UInt8):Nat->Nat->Int
 | 0,_=>-1
 | f+1,p=>if p < l.length then (if (vB l p).2=0∨(vB l p).1=0∨((vB l p).1=65279/\0 < p) then (p:Int) else dX2 l f (p+(vB l p).2.toNat)) else -1
def EX1 (l:List UInt8) (f p:Nat):Nat:=if DE l f p < 0 then l.length else (DE l f p).toNat
theorem qX3 (l:List UInt8):∀ (f p:Nat),DE l f p=-1∨∃ j:Nat,DE l f p=(j:Int)/\p<=j/\j < l.length
 | 0,p=>.inl rfl
 | f+1,p=>by
  unfold DE;by_cases hp:p < l.length
  ·rw [Bb hp];split
   ·exact .inr ⟨p,rfl,C' _,hp⟩
   ·rcases qX3 l f (p+(dec (l.drop p)).2) with h|⟨j,h,h1,h2⟩
    ·exact .inl h
    ·exact .inr ⟨j,h,Cs,h2⟩
  ·rw [Bc hp];exact .inl rfl
theorem eX9 {l:List UInt8}{f p:Nat} (hp:p < l.length) (h:(dec (l.drop p)).1=65533/\(vB l p).2=0):DE l (f+1) p=(p:Int):=by
 unfold DE;rw [Bb hp,Bb h]
theorem bZ0 {l:List UInt8}{f p:Nat} (hp:p < l.length) (h:¬ (vB l p).2=0):DE l (f+1) p=DE l f (p+(dec (l.drop p)).2):=by
 conv=>lhs;unfold DE
 rw [Bb hp,Bc (fun k=>h k.2)]
theorem LX3 (l:List UInt8):∀ (f g p:Nat),l.length<=p+f->EX1 l f p<=p+g->dX2 l f p=if 0<=eB (l.take (EX1 l f p)) g p then eB (l.take (EX1 l f p)) g p else if EX1 l f p < l.length then (EX1 l f p:Int) else -1
 | 0,g,p,hf,_=>by
  have hb:EX1 l 0 p=l.length:=rfl;rw [hb,xI (by rw [List.take_length];omega)];simp [dX2]
 | f+1,g,p,hf,hg=>by
  by_cases hp:p < l.length
  ·rcases OQ6 hp with ⟨h1,h2⟩|⟨h1,h2⟩
   ·have hb:EX1 l (f+1) p=p:=by unfold EX1;rw [eX9 hp ⟨h2,h1⟩,Bc Cs,Ai]
    rw [hb,xI Hu];unfold dX2;rw [Bb hp,Bb (.inl h1)];simp [hp]
   ·have hb:EX1 l (f+1) p=EX1 l f (p+(dec (l.drop p)).2):=by
     unfold EX1;rw [bZ0 hp h1]
    have hne:l.drop p≠[]:=Ed
    have hd:=eG hne;have hle:=FQ5 hp h1;rw [h2] at h1 hle;simp only [] at h1 hle;have hN:p+(dec (l.drop p)).2<=EX1 l f (p+(dec (l.drop p)).2)/\EX1 l f (p+(dec (l.drop p)).2)<=l.length:=by
     unfold EX1;rcases qX3 l f (p+(dec (l.drop p)).2) with h|⟨j,h,h3,h4⟩
     ·rw [h];simp;omega
     ·rw [h,Bc Cs,Ai];omega
    rw [hb] at hg ⊢;have ih:=LX3 l f (g - 1) (p+(dec (l.drop p)).2) Cs Cs;obtain⟨g,rfl⟩:∃ g',g=g'+1:=⟨g - 1,Cs⟩;rw [Nat.add_sub_cancel] at ih;generalize EX1 l f (p+(dec (l.drop p)).2)=n at *;have hdl:dec ((l.take n).drop p)=dec (l.drop p):=by
     rw [List.drop_take];exact SM hne Cs Fb (by
      have hv:¬ ((dec (l.drop p)).1=65533/\(dec (l.drop p)).2 < 2):=fun hv=>by
       have:(vB l p).2=0:=by unfold vB;rw [Bc Cs,Ai,Bb hv]
       rw [h2] at this;exact h1 this
      by_cases h5:(dec (l.drop p)).1=65533
      ·exact .inr Cs
      ·exact .inl h5)
    have hu:eB (l.take n) (g+1) p=if (dec (l.drop p)).1=0∨(dec (l.drop p)).1=65279/\0 < p then (p:Int) else eB (l.take n) g (p+(dec (l.drop p)).2):=by
     conv=>lhs;unfold eB
     rw [Bb Hu,hdl]
    rw [hu]
    conv=>lhs;unfold dX2
    rw [Bb hp,h2];simp only [Ai];by_cases hc:(dec (l.drop p)).1=0∨(dec (l.drop p)).1=65279/\0 < p
    ·rw [Bb hc,Bb (by rcases hc with h|h;exact .inr (.inl Cs);exact .inr (.inr ⟨Cs,h.2⟩)),Bb Cs]
    ·rw [Bc hc,Bc (by rintro (h|h|h);exact h1 h;exact hc (.inl Cs);exact hc (.inr ⟨Cs,h.2⟩)),ih]
  ·have hb:EX1 l (f+1) p=l.length:=by unfold EX1 DE;rw [Bc hp];rfl
   rw [hb,xI (by rw [List.take_length];exact hp)];unfold dX2;rw [Bc hp];simp
theorem BX7 (l:List UInt8):tG l=dX2 l l.length 0:=by
 have h:=LX3 l l.length (BK l) 0 Cs (by show EX1 l l.length 0<=_;unfold BK EX1 ZJ;omega);rw [h]
 rfl
end Ck
namespace Ck
open Go.RowKit
def CX1 (l:List UInt8):Nat->Nat->Nat
 | 0,p=>p
 | f+1,p=>if p < l.length then (if (vB l p).2=0∨oB (vB l p).1=false/\digitB (vB l p).1=false then p else CX1 l f (p+(vB l p).2.toNat)) else p
theorem uX7:oB 65533=false/\digitB 65533=false:=Ef
theorem YX7 {r:List UInt8}{f p:Nat} (h:p < r.length):VA r (f+1) p=if oB (dec (r.drop p)).1||digitB (dec (r.drop p)).1 then VA r f (p+(dec (r.drop p)).2) else p:=by
 conv=>lhs;unfold VA
 rw [Bb h]
theorem IX8 {l:List UInt8}{f p:Nat} (h:p < l.length):CX1 l (f+1) p=if (vB l p).2=0∨oB (vB l p).1=false/\digitB (vB l p).1=false then p else CX1 l f (p+(vB l p).2.toNat):=by
 conv=>lhs;unfold CX1
 rw [Bb h]
theorem RX2 (l:List UInt8) (k:Nat):∀ (f g p:Nat),l.length<=k+p+f->l.length<=k+p+g->k+p<=l.length->CX1 l f (k+p)=k+VA (l.drop k) g p
 | 0,g,p,hf,_,hp=>by rw [mO Fb,Ab];unfold CX1;omega
 | f+1,g,p,hf,hg,hkp=>by
  by_cases hp:k+p < l.length
  ·obtain⟨g,rfl⟩:∃ g',g=g'+1:=⟨g - 1,Cs⟩;have hd:(l.drop k).drop p=l.drop (k+p):=by rw [List.drop_drop]
   rw [IX8 hp,YX7 Fb,hd];rcases OQ6 hp with ⟨h1,h2⟩|⟨h1,h2⟩
   ·rw [Bb (.inl h1),h2];rw [show oB ((65533:Nat):Int)=false from uX7.1,show digitB ((65533:Nat):Int)=false from uX7.2]
    rfl
   ·have hle:=FQ5 hp h1;rw [h2] at h1 hle ⊢;simp only [Ai] at h1 hle ⊢;cases hc:oB (dec (l.drop (k+p))).1 <;> cases hc2:digitB (dec (l.drop (k+p))).1
    ·rw [Bb (.inr ⟨rfl,rfl⟩)];rfl
    all_goals
     rw [Bc (by rintro (h|⟨a,b⟩);exact h1 h;simp_all),Nat.add_assoc];exact RX2 l k f g _ Cs Cs Cs
  ·rw [mO Fb,Ab];unfold CX1;rw [Bc hp];omega
def MX0 (l:List UInt8):List (List UInt8)->Nat->Nat
 | [],b=>b
 | s::r,b=>MX0 l r (if s.isPrefixOf l=true/\b < s.length then s.length else b)
def rX0:List (List UInt8):=[[43],[45],[42],[47],[37],[38],[124],[94],[60,60],[62,62],[38,94],[43,61],[45,61],[42,61],[47,61],[37,61],[38,61],[124,61],[94,61],[60,60,61],[62,62,61],[38,94,61],[38,38],[124,124],[60,45],[43,43],[45,45],[61,61],[60],[62],[61],[33],[126],[33,61],[60,61],[62,61],[58,61],[46,46,46],[40],[41],[91],[93],[123],[125],[44],[46],[58]]
theorem LX2 (l:List UInt8):∀ (L:List (List UInt8)) (b:Nat),b<=MX0 l L b/\(∀ s∈L,s <+: l->s.length<=MX0 l L b)/\(MX0 l L b=b∨∃ s∈L,s <+: l/\MX0 l L b=s.length)
 | [],b=>⟨C' _,fun s h=>Do,.inl rfl⟩
 | s::r,b=>by
  unfold MX0;by_cases hc:s.isPrefixOf l=true/\b < s.length
  ·rw [Bb hc];obtain⟨h1,h2,h3⟩:=LX2 l r s.length;refine⟨Cs,fun x hx hp=>?_,?_⟩
   ·rcases List.mem_cons.1 hx with rfl|hx
    ·exact h1
    ·exact h2 x hx hp
   ·rcases h3 with h|⟨x,hx,hp,e⟩
    ·exact .inr ⟨s,Cu,List.isPrefixOf_iff_prefix.1 hc.1,h⟩
    ·exact .inr ⟨x,by simp [hx],hp,e⟩
  ·rw [Bc hc];obtain⟨h1,h2,h3⟩:=LX2 l r b;refine⟨h1,fun x hx hp=>?_,?_⟩
   ·rcases List.mem_cons.1 hx with rfl|hx
    ·have:¬ b < x.length:=fun h=>hc ⟨List.isPrefixOf_iff_prefix.2 hp,h⟩
     omega
    ·exact h2 x hx hp
   ·rcases h3 with h|⟨x,hx,hp,e⟩
    ·exact .inl h
    ·exact .inr ⟨x,by simp [hx],hp,e⟩
theorem zX3:(∀ s∈wU,s∈rX0)/\(∀ s∈rX0,s∈wU/\1<=s.length/\s.length<=3):=Ef
theorem DX2 (l:List UInt8):∀ n,(∀ m,m<=n->1<=m->l.take m∈wU->m<=IE l n)/\(IE l n=0∨l.take (IE l n)∈wU/\1<=IE l n/\IE l n<=n)
 | 0=>⟨fun m h h1 _=>Cs,.inl rfl⟩
 | n+1=>by
  unfold IE;split
  ·rename_i h;exact⟨fun m hm _ _=>hm,.inr ⟨List.contains_iff_mem.1 h,Cs,C' _⟩⟩
  ·rename_i h;obtain⟨h1,h2⟩:=DX2 l n;refine⟨fun m hm hm1 hs=>?_,?_⟩
   ·by_cases he:m=n+1
    ·subst he;exact absurd (List.contains_iff_mem.2 hs) h
    ·exact h1 m Cs hm1 hs
   ·rcases h2 with h2|⟨a,b,c⟩
    ·exact .inl h2
    ·exact .inr ⟨a,b,Cs⟩
theorem KX6 (l:List UInt8):MX0 l rX0 0=CG l:=by
 obtain⟨_,h2,h3⟩:=LX2 l rX0 0;obtain⟨k1,k2⟩:=DX2 l (min 3 l.length);unfold CG;apply Nat.le_antisymm
 ·rcases h3 with h|⟨s,hs,hp,e⟩
  ·omega
  ·rw [e];obtain⟨a,b,c⟩:=zX3.2 s hs;have hl:=hp.length_le;exact k1 s.length Cs b (by rw [List.prefix_iff_eq_take.1 hp] at a;exact a)
 ·rcases k2 with h|⟨a,b,c⟩
  ·omega
  ·have:=h2 _ (zX3.1 _ a) (List.take_prefix _ _);rw [List.length_take] at this;omega
end Ck
namespace Ck
open Go.RowKit
def TX2 (l:List UInt8):Nat->Nat->Nat
 | 0,p=>p
 | f+1,p=>if p < l.length then (if (vB l p).2=0∨RI (vB l p).1=false then p else TX2 l f (p+(vB l p).2.toNat)) else p
theorem TX7 {l:List UInt8}{f p:Nat} (h:p < l.length):TX2 l (f+1) p=if (vB l p).2=0∨RI (vB l p).1=false then p else TX2 l f (p+(vB l p).2.toNat):=by
 conv=>lhs;unfold TX2
 rw [Bb h]
theorem GX6:∀ b:Fin 256,([32,9,13,10]:List UInt8).contains (UInt8.ofNat b.val)=RI (b.val:Int)/\(RI (b.val:Int)=true->b.val < 128):=Ef
theorem DX5 (b:UInt8):([32,9,13,10]:List UInt8).contains b=RI (b.toNat:Int)/\(RI (b.toNat:Int)=true->b.toNat < 128):=by
 have h:=GX6 ⟨b.toNat,b.toNat_lt⟩;simpa only [UInt8.ofNat_toNat] using h
theorem GX4 {r:Int} (h:RI r=true):r < 128:=by
 unfold RI at h;simp only [Bv,Bh] at h;omega
theorem bX4 (l:List UInt8) (k:Nat):∀ (f p:Nat),l.length<=k+p+f->k+p<=l.length->(∀ (j:Nat) (b:UInt8),j < p->(l.drop k)[j]?=some b->([32,9,13,10]:List UInt8).contains b=true)->TX2 l f (k+p)=l.length - (Lib.trimLeftS (l.drop k) [32,9,13,10]).length
 | f,p,hf,hkp,hall=>by
  have hstop:(∀ b,(l.drop k)[p]?=some b->([32,9,13,10]:List UInt8).contains b=false)->l.length - (Lib.trimLeftS (l.drop k) [32,9,13,10]).length=k+p:=fun h=>by
   rw [Lib.trimLeftS_drop (l.drop k) _ p Fb hall h,Ab,Ab];omega
  by_cases hp:k+p < l.length
  ·obtain⟨f,rfl⟩:∃ f',f=f'+1:=⟨f - 1,Cs⟩;obtain⟨b,hb⟩:∃ b,b=l[k+p]:=⟨_,rfl⟩;have hg:(l.drop k)[p]?=some b:=by rw [List.getElem?_drop,O' hp,hb]
   have hd:l.drop (k+p)=b::l.drop (k+p+1):=by rw [hb];exact Aq hp
   obtain⟨s1,s2⟩:=DX5 b;rw [TX7 hp];cases hc:([32,9,13,10]:List UInt8).contains b with
   | true =>
    rw [s1] at hc;have hr:=MX2 hd hp (s2 hc);rw [hr];simp only [hc];rw [Bc (by rintro (h|h);omega;cases h)];exact bX4 l k f (p+1) Cs Cs (fun j x hj hx=>by
     by_cases he:j=p
     ·subst he;rw [hg] at hx;cases hx;rw [s1,hc]
     ·exact hall j x Cs hx)
   | false =>
    rw [hstop (fun x hx=>by rw [hg] at hx;cases hx;exact hc),Bb];rcases OQ6 hp with ⟨h1,_⟩|⟨h1,h2⟩
    ·exact .inl h1
    ·cases hbl:RI (vB l ((k+p:Nat):Int)).1 with
     | false=>exact .inr rfl
     | true =>
      have hs:=GX4 hbl;rw [h2] at hbl hs;simp only [] at hbl hs;obtain⟨b2,r2,e1,e2⟩:=pT (l:=l.drop (k+p)) Hy Cs;rw [hd] at e1;cases e1;rw [e2,<- s1,hc] at hbl;cases hbl
  ·rw [hstop (fun x hx=>by have:=(Al.1 hx).1;rw [Ab] at this;omega)];cases f with
   | zero=>rfl
   | succ f=>unfold TX2;rw [Bc hp]
def qX2 (l:List UInt8):Nat->Nat->Nat
 | 0,p=>p
 | f+1,p=>if h:p < l.length then (if l[p]=10 then p else qX2 l f (p+1)) else p
theorem YX5 (l:List UInt8) (k:Nat) (hk:k<=l.length):∀ (f p:Nat),l.length<=k+p+f->k+p<=l.length->(∀ j,j < p->(l.drop k)[j]?≠some 10)->qX2 l f (k+p)=if 0<=Lib.indexByte (l.drop k) 10 then k+(Lib.indexByte (l.drop k) 10).toNat else l.length
 | f,p,hf,hkp,hall=>by
  by_cases hp:k+p < l.length
  ·obtain⟨f,rfl⟩:∃ f',f=f'+1:=⟨f - 1,Cs⟩;have hg:(l.drop k)[p]?=some l[k+p]:=by rw [List.getElem?_drop,O' hp]
   unfold qX2;rw [dif_pos hp];by_cases hc:l[k+p]=10
   ·rw [Bb hc];have h3:Lib.indexByte (l.drop k) 10=(p:Int):=by
     have hge:=Lib.indexByte_ge (l.drop k) 10;by_cases hn:Lib.indexByte (l.drop k) 10=-1
     ·exact absurd (by rw [hg,hc]) (Lib.indexByte_none hn p)
     ·obtain⟨o,ho⟩:=Ad (show 0<=Lib.indexByte (l.drop k) 10 by omega);obtain⟨a,b⟩:=Lib.indexByte_some ho;rw [ho];rcases Nat.lt_trichotomy o p with h|h|h
      ·exact absurd a (hall o h)
      ·rw [h]
      ·exact absurd (by rw [hg,hc]) (b p h)
    rw [h3,Bb Cs];omega
   ·rw [Bc hc,Nat.add_assoc];exact YX5 l k hk f (p+1) Cs Cs (fun j hj=>by
     by_cases he:j=p
     ·subst he;rw [hg];intro e;exact hc (Option.some.inj e)
     ·exact hall j Cs)
  ·have hn:¬ 0<=Lib.indexByte (l.drop k) 10:=fun h=>by
    obtain⟨o,ho⟩:=Ad h;obtain⟨a,b⟩:=Lib.indexByte_some ho;have:=(Al.1 a).1;rw [Ab] at this;exact hall o Cs a
   rw [Bc hn];cases f with
   | zero=>unfold qX2;omega
   | succ f=>unfold qX2;rw [dif_neg hp];omega
end Ck
namespace Ck
open Go.RowKit
def DX1 (l:List UInt8):Nat->Nat->Option Nat
 | 0,_=>none
 | f+1,p=>if p < l.length then (if ([42,47]:List UInt8).isPrefixOf (l.drop p) then some (p+2) else DX1 l f (p+1)) else none
theorem dX5 (l:List UInt8) (k:Nat):∀ (f p:Nat),l.length<=k+p+f->(∀ j,j < p->Lib.occAt (l.drop k) [42,47] j=false)->DX1 l f (k+p)=if 0<=Lib.index (l.drop k) [42,47] then some (k+(Lib.index (l.drop k) [42,47]).toNat+2) else none
 | f,p,hf,hall=>by
  have hocc:Lib.occAt (l.drop k) [42,47] p=([42,47]:List UInt8).isPrefixOf (l.drop (k+p)):=by unfold Lib.occAt;rw [List.drop_drop]
  by_cases hp:k+p < l.length
  ·obtain⟨f,rfl⟩:∃ f',f=f'+1:=⟨f - 1,Cs⟩;unfold DX1;rw [Bb hp,<- hocc];cases hc:Lib.occAt (l.drop k) [42,47] p with
   | true =>
    rw [Bb rfl];have h3:Lib.index (l.drop k) [42,47]=(p:Int):=by
     rcases Lib.index_spec (l.drop k) [42,47] with ⟨_,h2⟩|⟨i,h1,h2,h4,h5⟩
     ·have:=h2 p Fb;rw [hc] at this;cases this
     ·rcases Nat.lt_trichotomy i p with h|h|h
      ·rw [hall i h] at h4;cases h4
      ·rw [h1,h]
      ·have:=h5 p h;rw [hc] at this;cases this
    rw [h3,Bb Cs,Ai]
   | false =>
    rw [Bc Cu,Nat.add_assoc];exact dX5 l k f (p+1) Cs (fun j hj=>by
     by_cases he:j=p
     ·subst he;exact hc
     ·exact hall j Cs)
  ·have hn:¬ 0<=Lib.index (l.drop k) [42,47]:=fun h=>by
    rcases Lib.index_spec (l.drop k) [42,47] with ⟨h1,_⟩|⟨i,h1,h2,h4,h5⟩
    ·omega
    ·rcases Lib.occAt_room h4 with h6|h6
     ·rw [Ab,Ae,Ae,Am] at h6;have:=hall i Cs;rw [h4] at this;cases this
     ·cases h6
   rw [Bc hn];cases f with
   | zero=>rfl
   | succ f=>unfold DX1;rw [Bc hp]
end Ck
namespace Ck
open Go.RowKit
def IX0 (s:List UInt8):List Tk->Bool
 | []=>true
 | t::r=>if kJ t.kind then (if nlB (oG s t) then true else IX0 s r) else false
def sX0 (s:List UInt8):List Tk->List Tk
 | []=>[]
 | t::r=>if kJ t.kind then sX0 s r else t::(if (vP t.kind (oG s t)&&IX0 s r)=true then ⟨9,t.to,t.to⟩::sX0 s r else sX0 s r)
def bX2 (s:List UInt8) (e:Option Nat) (l:List Tk):List Tk:=match e with
 | none=>sX0 s l
 | some n=>if IX0 s l=true then ⟨9,n,n⟩::sX0 s l else sX0 s l
theorem BX2 (s:List UInt8):∀ (l:List Tk) (e:Option Nat) (out:List Tk),QD (jG s l (e,out))=out++bX2 s e l
 | [],none,out=>by simp [jG,QD,bX2,sX0]
 | [],some n,out=>by simp [jG,QD,bX2,sX0,IX0]
 | t::r,e,out=>by
  rw [jG];unfold GE;cases hs:kJ t.kind with
  | true =>
   rw [Bb rfl];cases hn:nlB (oG s t) with
   | true =>
    rw [Bb rfl,BX2 s r none];cases e with
    | none=>simp [QD,bX2,sX0,hs]
    | some n=>simp [QD,bX2,sX0,IX0,hs,hn]
   | false =>
    rw [Bc Cu,BX2 s r e];cases e with
    | none=>simp [bX2,sX0,hs]
    | some n=>simp [bX2,sX0,IX0,hs,hn]
  | false =>
   rw [Bc Cu,BX2 s r];have h:bX2 s e (t::r)=sX0 s (t::r):=by
    cases e with
    | none=>rfl
    | some n=>simp [bX2,IX0,hs]
   rw [h];cases he:vP t.kind (oG s t) <;> simp [bX2,sX0,hs,he]
theorem GX8 (s:List UInt8):wH s=match cK s with
 | .bad e a=>.bad e a
 | .ok l=>.ok (sX0 s l):=by
 unfold wH;cases cK s with
 | bad e a=>rfl
 | ok l=>simp [BX2,bX2]
end Ck
namespace Ck
open Go.RowKit
def scB (c:UInt8):Int:=if c=40 then 1 else if c=91 then 2 else if c=123 then 3 else if c=41 then -1 else if c=93 then -2 else if c=125 then -3 else 0
def GX0 (s:List UInt8) (t:Tk):Int:=if t.kind=8 then (if oG s t=[40] then 1 else if oG s t=[91] then 2 else if oG s t=[123] then 3 else if oG s t=[41] then -1 else if oG s t=[93] then -2 else if oG s t=[125] then -3 else 0) else 0
def eX3 (l:List Tk) (i:Nat):Tk:=(l[i]?).getD ⟨0,0,0⟩
def JX1 (s:List UInt8) (l:List Tk):List Tk->Nat->vH->DO
 | [],_,st=>if st.stk=[] then .ok l st.pair st.most else .bad 5 (vQ l st.top)
 | t::r,i,st =>
  if 0 < GX0 s t then (if 100<=st.stk.length then .bad 6 t.fr else JX1 s l r (i+1) ⟨st.pair,st.stk++[i],max st.most (st.stk.length+1)⟩)
  else if GX0 s t < 0 then (if st.stk=[]∨GX0 s (eX3 l st.top)+GX0 s t≠0 then .bad 5 t.fr else JX1 s l r (i+1) ⟨(st.pair.set i (st.top:Int)).set st.top (i:Int),st.stk.dropLast,st.most⟩)
  else JX1 s l r (i+1) st
theorem JX4 {s:List UInt8}{t:Tk} (h:iY s t) (h8:t.kind=8) (h1:t.to - t.fr=1):GX0 s t=scB (sG s t.fr):=by
 obtain⟨a,b,c⟩:=h;have hlt:t.fr < s.length:=Cs
 have e:oG s t=[sG s t.fr]:=by
  unfold oG sG;rw [h1,Aq hlt,O' hlt]
  rfl
 unfold GX0 scB;rw [Bb h8,e];simp only [List.cons.injEq,and_true]
theorem fX6 {s:List UInt8}{t:Tk} (h:iY s t) (h1:t.kind≠8∨t.to - t.fr≠1):GX0 s t=0:=by
 unfold GX0;by_cases h8:t.kind=8
 ·rw [Bb h8];have hl:(oG s t).length≠1:=by
   obtain⟨a,b,c⟩:=h;unfold oG;rw [List.length_take,Ab];rcases h1 with h1|h1
   ·exact absurd h8 h1
   ·omega
  have hn:∀ x:UInt8,¬ oG s t=[x]:=fun x e=>hl Eu
  simp only [hn,Bf]
 ·rw [Bc h8]
theorem JX8:∀ c:Fin 256,(XK (UInt8.ofNat c.val)≠0↔0 < scB (UInt8.ofNat c.val))/\((UInt8.ofNat c.val=41∨UInt8.ofNat c.val=93∨UInt8.ofNat c.val=125)↔scB (UInt8.ofNat c.val) < 0):=Ef
theorem cX2 (c:UInt8):(XK c≠0↔0 < scB c)/\((c=41∨c=93∨c=125)↔scB c < 0):=by
 have h:=JX8 ⟨c.toNat,c.toNat_lt⟩;simpa only [UInt8.ofNat_toNat] using h
theorem oX8 {a c:UInt8} (ha:0 < scB a) (hc:scB c < 0):XK a≠c↔scB a+scB c≠0:=by
 have h1:a=40∨a=91∨a=123:=by
  unfold scB at ha
  repeat' split at ha
  all_goals first|(left;assumption)|(right;left;assumption)|(right;right;assumption)|omega
 have h2:c=41∨c=93∨c=125:=((cX2 c).2).2 hc;rcases h1 with rfl|rfl|rfl <;> rcases h2 with rfl|rfl|rfl <;> decide
structure NR (s:List UInt8) (l:List Tk) (i:Nat) (a b:vH):Prop where
 stk:a.stk=b.stk
 most:a.most=b.most
 la:a.pair.length=l.length
 lb:b.pair.length=l.length
 low:∀ j,j < i->a.pair[j]?=b.pair[j]?
 up:∀ j,i<=j->j < l.length->b.pair[j]?=some (-1)
 opn:∀ x∈a.stk,x < i/\iY s (eX3 l x)/\(eX3 l x).kind=8/\(eX3 l x).to - (eX3 l x).fr=1/\0 < GX0 s (eX3 l x)
theorem NR.next {s:List UInt8}{l:List Tk}{i:Nat}{a b:vH} (h:NR s l i a b) (hi:i < l.length):NR s l (i+1) ⟨a.pair.set i (-1),a.stk,a.most⟩ b:=by
 refine⟨h.stk,h.most,by simp [h.la],h.lb,fun j hj=>?_,fun j hj=>h.up j Cs,fun x hx=>?_⟩
 ·show (a.pair.set i (-1))[j]?=_
  rw [List.getElem?_set];by_cases e:i=j
  ·subst e;rw [Bb rfl,Bb (by rw [h.la];exact hi),h.up i (C' _) hi]
  ·rw [Bc e];exact h.low j Cs
 ·obtain⟨h1,h2⟩:=h.opn x hx;exact⟨Cs,h2⟩
theorem zX1 (s:List UInt8) (l:List Tk) (hok:∀ t∈l,iY s t):∀ (r:List Tk) (i:Nat) (a b:vH),l.drop i=r->NR s l i a b->a.stk.length<=100->rF s l r i a=JX1 s l r i b
 | [],i,a,b,hd,h,_=>by
  have hi:l.length<=i:=by
   have:=congrArg List.length hd;rw [Ab,Am] at this;omega
  have hp:a.pair=b.pair:=by
   apply List.ext_getElem?;intro j;by_cases hj:j < i
   ·exact h.low j hj
   ·rw [As (by rw [h.la];omega),As (by rw [h.lb];omega)]
  unfold rF JX1 vH.top;rw [h.stk,h.most,hp]
 | t::r,i,a,b,hd,h,hlen=>by
  have hi:i < l.length:=by
   have:=congrArg List.length hd;rw [Ab,Ae] at this;omega
  have hti:l[i]?=some t:=by
   have:=congrArg (fun x=>x[0]?) hd;simpa [List.getElem?_drop] using this
  have htk:eX3 l i=t:=by unfold eX3;rw [hti];rfl
  have hT:=hok t (List.mem_of_getElem? hti);have hd2:l.drop (i+1)=r:=by rw [<- List.drop_drop,hd];rfl
  have hN:=h.next hi;unfold rF JX1;by_cases h1:t.kind≠8∨t.to - t.fr≠1
  ·rw [Bb h1,fX6 hT h1,Bc (show ¬ (0:Int) < 0 by omega),Bc (show ¬ (0:Int) < 0 by omega)];exact zX1 s l hok r (i+1) _ b hd2 hN hlen
  ·have h8:t.kind=8:=Classical.byContradiction fun e=>h1 (.inl e)
   have h11:t.to - t.fr=1:=Classical.byContradiction fun e=>h1 (.inr e)
   have hs:=JX4 hT h8 h11;rw [Bc h1];by_cases h2:XK (sG s t.fr)≠0
   ·have h2':=(cX2 _).1.1 h2;rw [Bb h2,Bb (show 0 < GX0 s t by rw [hs];exact h2'),<- h.stk,<- h.most];by_cases h3:a.stk.length=100
    ·rw [Bb h3,Bb (show 100<=a.stk.length by omega)]
    ·rw [Bc h3,Bc (show ¬ 100<=a.stk.length by omega)];refine zX1 s l hok r (i+1) _ _ hd2 ⟨rfl,rfl,hN.la,hN.lb,hN.low,hN.up,fun x hx=>?_⟩ (by rw [V'];simp;omega);rcases List.mem_append.1 hx with hx|hx
     ·exact hN.opn x hx
     ·rw [List.mem_singleton] at hx;subst hx;rw [htk];exact⟨Cs,hT,h8,h11,by rw [hs];exact h2'⟩
   ·have h2':¬ 0 < scB (sG s t.fr):=fun e=>h2 ((cX2 _).1.2 e)
    rw [Bc h2,Bc (show ¬ 0 < GX0 s t by rw [hs];exact h2')];by_cases h3:sG s t.fr=41∨sG s t.fr=93∨sG s t.fr=125
    ·have h3':=(cX2 _).2.1 h3;have htop:b.top=a.top:=by unfold vH.top;rw [h.stk]
     rw [Bb h3,Bb (show GX0 s t < 0 by rw [hs];exact h3'),htop,<- h.stk];by_cases h4:a.stk=[]
     ·rw [Bb (.inl h4),Bb (.inl h4)]
     ·have hmem:a.top∈a.stk:=by
       unfold vH.top;rw [List.getLast?_eq_some_getLast h4,Option.getD_some];exact List.getLast_mem h4
      obtain⟨t1,t2,t3,t4,t5⟩:=h.opn _ hmem;have hs2:=JX4 t2 t3 t4;rw [hs2] at t5;have hfr:vQ l a.top=(eX3 l a.top).fr:=rfl;have hiff:=oX8 t5 h3';rw [hfr];by_cases h5:XK (sG s (eX3 l a.top).fr)≠sG s t.fr
      ·rw [Bb (.inr h5),Bb (.inr (by rw [hs,hs2];exact hiff.1 h5))]
      ·rw [Bc (by rintro (e|e);exact h4 e;exact h5 e),Bc (by rintro (e|e);exact h4 e;rw [hs,hs2] at e;exact h5 (hiff.2 e))];refine zX1 s l hok r (i+1) _ _ hd2 ⟨rfl,h.most,by simp [h.la],by simp [h.lb],fun j hj=>?_,fun j hj hjl=>?_,fun x hx=>hN.opn x (List.dropLast_subset _ hx)⟩ (by rw [List.length_dropLast];omega)
       ·have h6:=hN.low j hj;simp only [List.getElem?_set,List.length_set,h.la,h.lb] at h6 ⊢;by_cases e1:a.top=j
        ·rw [Bb e1,Bb e1]
        ·rw [Bc e1,Bc e1];by_cases e2:i=j
         ·rw [Bb e2,Bb e2]
         ·rw [Bc e2,Bc e2];rw [Bc e2] at h6
          first|exact h6|(rw [Bc e2];exact h6)
       ·simp only [List.getElem?_set,List.length_set,h.lb];rw [Bc Cs,Bc Cs];exact h.up j Cs hjl
    ·have h3':¬ scB (sG s t.fr) < 0:=fun e=>h3 ((cX2 _).2.2 e)
     rw [Bc h3,Bc (show ¬ GX0 s t < 0 by rw [hs];exact h3')];exact zX1 s l hok r (i+1) _ b hd2 hN hlen
def AX5 (s:List UInt8):DO:=match wH s with
 | .bad e a=>.bad e a
 | .ok l=>JX1 s l l 0 ⟨List.replicate l.length (-1),[],0⟩
theorem EX5 (s:List UInt8) (hok:∀ l,wH s=.ok l->∀ t∈l,iY s t):FH s=AX5 s:=by
 unfold FH AX5;cases hl:wH s with
 | bad e a=>rfl
 | ok l =>
  refine zX1 s l (hok l hl) l 0 _ _ rfl ⟨rfl,rfl,Cu,Cu,fun j hj=>Cs,fun j _ hj=>?_,fun x hx=>by cases hx⟩ Cu
  show (List.replicate l.length (-1:Int))[j]?=_
  rw [List.getElem?_replicate,Bb hj]
end Ck
