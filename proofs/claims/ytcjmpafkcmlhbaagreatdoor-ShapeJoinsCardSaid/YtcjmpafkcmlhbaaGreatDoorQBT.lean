import Derived.Test.YtcjmpafkcmlhbaaGreatDoorShelf
import Derived.Test.YtcjmpafkcmlhbaaGreatDoorQAG
import Derived.Test.YtcjmpafkcmlhbaaGreatDoorQBS
namespace Go.Proofs.YtcjmpafkcmlhbaaGreatDoor
set_option linter.all false
set_option maxHeartbeats 40000000
set_option maxRecDepth 100000
namespace Grd
open Go.RowKit
def ZH:Nat→List UInt8
 | 0=>[32,124,124,32]
 | 1=>[32,38,38,32]
 | 2=>[32,61,61,32,33,61,32,60,32,60,61,32,62,32,62,61,32]
 | 3=>[32,43,32,45,32,124,32,94,32]
 | _=>[32,42,32,47,32,37,32,60,60,32,62,62,32,38,32,38,94,32]
def dZ (w:List UInt8) (i:Nat):Bool:=decide (w≠[])&&!decide (0≤Lib.indexByte w 32)&&Lib.contains (ZH i) (32::(w++[32]))
def LT (w:List UInt8):Nat→Nat→Int
 | 0,_=>1
 | f+1,i=>if dZ w i then (i:Int)+1 else LT w f (i+1)
def fT (k:UInt8) (w:List UInt8):Int :=
 if (k.toNat:Int)=36∨(k.toNat:Int)=35 then 6 else if (k.toNat:Int)=37 then LT w 5 0 else 7
def TX (k:UInt8) (w:List UInt8) (nth:Int):Int :=
 if k=37 then (if nth=0 then fT k w else if nth=1 then fT k w+1 else 0)
 else if k=36∨k=35 then 6
 else if k=29∨k=30∨k=31∨k=32∨k=33∨k=34 then (if nth=0 then 7 else 0)
 else if k=61 then (if nth=2 then 7 else 0) else 0
theorem QW (w:List UInt8):∀ f i,f+i≤5→1≤LT w f i∧LT w f i≤6:=by
 intro f
 induction f with
 | zero=>intro i _;simp [LT]
 | succ f ih =>
  intro i h;rw [LT];split
  ·omega
  ·exact ih (i+1) (by omega)
theorem lZ (k:UInt8) (w:List UInt8):1≤fT k w∧fT k w≤7:=by
 unfold fT;have:=QW w 5 0 (by omega);split
 ·omega
 ·split <;> omega
inductive Fo where
 | nil:Fo
 | cons (p:Pt) (kids rest:Fo):Fo
def Fo.flat:Fo→List Pt
 | .nil=>[]
 | .cons p k r=>p::(k.flat++r.flat)
def Fo.size:Fo→Nat
 | .nil=>0
 | .cons _ k r=>1+k.size+r.size
def Fo.count:Fo→Nat
 | .nil=>0
 | .cons _ _ r=>r.count+1
def Fo.good:Fo→Prop
 | .nil=>True
 | .cons p k r=>(k.count:Int)=p.n∧k.good∧r.good
theorem Fo.flat_len:∀ f:Fo,f.flat.length=f.size
 | .nil=>rfl
 | .cons p k r=>by simp [Fo.flat,Fo.size,Fo.flat_len k,Fo.flat_len r];omega
def NY:Pt:=⟨28,1,[]⟩
def gl:Fo→Pt→Nat→Nat→List (Pt × Option Nat)
 | .nil,_,_,_=>[]
 | .cons q k r,p,nth,i=>(if fT q.k q.w < TX p.k p.w nth then [(NY,none)] else [])++(q,some i)::(gl k q 0 (i+1)++gl r p (nth+1) (i+1+k.size))
def mZ (o:List (Pt × Option Nat)):List Pt:=o.map Prod.fst
def MY (fr:List Int) (x:Option Nat):Int:=match x with|none=>-1|some i=>fr.getD i 0
def jZ (fr:List Int) (o:List (Pt × Option Nat)):List Int:=o.map fun x=>MY fr x.2
theorem FU:∀ (f:Fo) (p:Pt) (nth i:Nat),(gl f p nth i).length≤2*f.size
 | .nil,_,_,_=>by simp [gl]
 | .cons q k r,p,nth,i=>by
  have h1:=FU k q 0 (i+1);have h2:=FU r p (nth+1) (i+1+k.size);simp only [gl,Fo.size,List.length_append,List.length_cons];split <;> simp <;> omega
def eZ (q:Pt) (k:Fo):List (Pt × Option Nat):=(q,some 0)::gl k q 0 1
end Grd
namespace Shp
open Go.RowKit
open Grd (Pt Fo)
variable {l:List Pt}
def yH (l:List Pt) (K:Nat→List Nat):List Nat→Int
 | []=>0
 | o::r=>(nk l o - (K o).length)+yH l K r
theorem rP (l:List Pt) (K:Nat→List Nat):∀ o:List Nat,yH l K (TF l K o)=yH l K o
 | []=>rfl
 | t::r=>by
  unfold TF;split
  ·rename_i h;rw [rP l K r,yH];omega
  ·rfl
theorem bL {K K':Nat→List Nat}:∀ {o:List Nat},(∀ x∈o,K' x=K x)→yH l K' o=yH l K o
 | [],_=>rfl
 | t::r,h=>by rw [yH,yH,h t (.head _),bL (fun x hx=>h x (.tail _ hx))]
theorem vN {K:Nat→List Nat}:∀ {o:List Nat}{t:Nat}{r:List Nat},TF l K o=t::r→¬ ((K t).length:Int)=nk l t
 | x::o,t,r,h=>by
  unfold TF at h;split at h
  ·exact vN h
  ·rename_i hx;cases h;exact hx
theorem dN {K:Nat→List Nat}:∀ {o:List Nat}{x:Nat},x∈o→x ∉ TF l K o→((K x).length:Int)=nk l x
 | y::o,x,hx,hn=>by
  unfold TF at hn;split at hn
  ·rename_i hy;rcases List.mem_cons.1 hx with rfl|hx
   ·exact hy
   ·exact dN hx hn
  ·exact absurd hx hn
def FP (l:List Pt) (i:Nat):Int:=1+((l.take i).map fun p=>p.n - 1).sum
theorem rT {i:Nat} (hi:i < l.length):FP l (i+1)=FP l i+(nk l i - 1):=by
 unfold FP nk;rw [List.take_succ,List.getElem?_eq_getElem hi];simp only [Option.toList_some,List.map_append,List.map_cons,List.map_nil,List.sum_append,List.sum_cons,List.sum_nil,Option.map_some,Option.getD_some];omega
structure Bok (l:List Pt) (i:Nat) (s:Bst):Prop where
 le:∀ j,j < i→((s.K j).length:Int)≤nk l j
 full:∀ j,j < i→j ∉ s.op→((s.K j).length:Int)=nk l j
 dec:s.op.Pairwise (· > ·)
 rem:0 < i→yH l s.K s.op=FP l i
 up:∀ j k,j < i→s.U j=some k→k < j∧(s.K k)[s.T j]?=some j
 nth:∀ m j k,(s.K j)[m]?=some k→s.U k=some j∧s.T k=m
 top:∀ j,j < i→s.U j=none→j=0
theorem bok (hn:∀ j,j < l.length→0≤nk l j) (hp:∀ i,0 < i→i < l.length→1≤FP l i):∀ i,i≤l.length→Bok l i (bld l i)
 | 0,_=>⟨fun _ h=>absurd h (Nat.not_lt_zero _),fun _ h=>absurd h (Nat.not_lt_zero _),.nil,fun h=>absurd h (Nat.lt_irrefl _),fun _ _ h=>absurd h (Nat.not_lt_zero _),fun _ _ _ h=>by simp [bld] at h,fun _ h=>absurd h (Nat.not_lt_zero _)⟩
 | i+1,hi=>by
  have ih:=bok hn hp i (by omega);obtain⟨l1,l2,l3,l4⟩:=YJ l i;have hni:=hn i (by omega);have hpr:=rT (l:=l) (i:=i) (by omega);have hpop:=rP l (bld l i).K (bld l i).op;obtain⟨a,ha⟩:=jJ l (bld l i).K (bld l i).op;have hdec:(TF l (bld l i).K (bld l i).op).Pairwise (· > ·):=by
   have:=ih.dec;rw [ha] at this;exact (List.pairwise_append.1 this).2.1
  have hKi:(bld l i).K i=[]∨True:=.inr trivial
  show Bok l (i+1) (sI l (bld l i) i)
  unfold sI;cases hq:TF l (bld l i).K (bld l i).op with
  | nil =>
   have hi0:i=0:=by
    rcases Nat.eq_zero_or_pos i with h|h
    ·exact h
    ·have h1:=ih.rem h;rw [← hpop,hq] at h1;have h2:=hp i h (by omega);simp only [yH] at h1;omega
   subst hi0;refine⟨fun j hj=>?_,fun j hj hm=>?_,List.pairwise_singleton _ _,fun _=>?_,fun j k hj hu=>?_,fun m j k hk=>?_,fun j hj _=>by omega⟩
   ·obtain rfl:j=0:=by omega
    simp only [fD];simpa using hni
   ·obtain rfl:j=0:=by omega
    exact absurd (List.mem_singleton.2 rfl) hm
   ·simp only [yH,fD];rw [hpr];simp [FP];omega
   ·obtain rfl:j=0:=by omega
    simp only [fD] at hu;cases hu
   ·simp only [upd] at hk;split at hk
    ·cases hk
    ·simp [bld] at hk
  | cons t r =>
   rw [hq] at hpop hdec;have hti:t < i:=l1 t (OL (l:=l) (K:=(bld l i).K) (by rw [hq];exact .head _));have hr:∀ x∈r,x < t:=fun x hx=>(List.pairwise_cons.1 hdec).1 x hx
   have htf:=vN hq;have htl:=ih.le t hti;refine⟨fun j hj=>?_,fun j hj hm=>?_,?_,fun _=>?_,fun j k hj hu=>?_,fun m j k hk=>?_,fun j hj hu=>?_⟩
   ·simp only [upd];split
    ·rename_i h;subst h;simp;omega
    ·split
     ·rename_i h;subst h;simpa using hni
     ·exact ih.le j (by omega)
   ·have hjt:j≠t:=fun e=>hm (by rw [e];exact .tail _ (.head _))
    have hji:j≠i:=fun e=>hm (by rw [e];exact .head _)
    simp only [upd,if_neg hjt,if_neg hji];by_cases ho:j∈(bld l i).op
    ·exact dN ho (by rw [hq];exact fun h=>hm (.tail _ h))
    ·exact ih.full j (by omega) ho
   ·refine List.pairwise_cons.2 ⟨fun x hx=>?_,hdec⟩;rcases List.mem_cons.1 hx with rfl|hx
    ·exact hti
    ·have:=hr x hx;omega
   ·have h1:=ih.rem (by omega);rw [← hpop] at h1;have hrc:yH l (upd (upd (bld l i).K i []) t ((bld l i).K t++[i])) r=yH l (bld l i).K r:=bL fun x hx=>by
     have:=hr x hx;simp only [upd,if_neg (show x≠t by omega),if_neg (show x≠i by omega)]
    simp only [yH] at h1 ⊢;rw [hrc,fD,EC _ _ (show i≠t by omega),fD,hpr,← h1];simp;omega
   ·simp only [upd] at hu ⊢;split at hu
    ·rename_i h;subst h;cases hu;refine⟨hti,?_⟩;rw [if_pos rfl,if_pos rfl];simp
    ·rename_i h;obtain⟨h1,h2⟩:=ih.up j k (by omega) hu;refine⟨h1,?_⟩;rw [if_neg h];split
     ·rename_i e;subst e;rw [List.getElem?_append_left (List.getElem?_eq_some_iff.1 h2).1];exact h2
     ·rw [if_neg (by omega)];exact h2
   ·simp only [upd] at hk ⊢;split at hk
    ·rename_i e;subst e;by_cases hm:m < ((bld l i).K j).length
     ·rw [List.getElem?_append_left hm] at hk;have h1:=l2 j k (List.mem_of_getElem? hk);rw [if_neg (by omega),if_neg (by omega)];exact ih.nth m j k hk
     ·rw [List.getElem?_append_right (by omega)] at hk;have h3:m - ((bld l i).K j).length=0:=by
       rcases Nat.eq_zero_or_pos (m - ((bld l i).K j).length) with h|h
       ·exact h
       ·rw [List.getElem?_eq_none (by simp;omega)] at hk;cases hk
      rw [h3] at hk;simp at hk;subst hk;rw [if_pos rfl,if_pos rfl];exact⟨rfl,by omega⟩
    ·split at hk
     ·cases hk
     ·have h1:=l2 j k (List.mem_of_getElem? hk);rw [if_neg (by omega),if_neg (by omega)];exact ih.nth m j k hk
   ·simp only [upd] at hu;split at hu
    ·cases hu
    ·exact ih.top j (by omega) hu
def zN (l:List Pt):Int:=(l.map fun p=>p.n - 1).sum
theorem kK (a b:List Pt):zN (a++b)=zN a+zN b:=by unfold zN;rw [List.map_append,List.sum_append]
theorem RM (p:Pt) (a:List Pt):zN (p::a)=(p.n - 1)+zN a:=rfl
theorem DN:∀ f:Fo,f.good→zN f.flat=- (f.count:Int)
 | .nil,_=>rfl
 | .cons p k r,h=>by
  obtain⟨h1,h2,h3⟩:=h;have a:=DN k h2;have b:=DN r h3;simp only [Fo.flat,Fo.count,RM,kK];rw [a,b]
  push_cast
  omega
theorem iR:∀ (f:Fo),f.good→∀ m,m < f.flat.length→1 - (f.count:Int)≤zN (f.flat.take m)
 | .nil,_,m,hm=>absurd hm (Nat.not_lt_zero _)
 | .cons p k r,h,0,_=>by simp only [List.take_zero,Fo.count];show _≤(0:Int);push_cast;omega
 | .cons p k r,h,m+1,hm=>by
  obtain⟨h1,h2,h3⟩:=h;have a:=DN k h2;have ha:=iR k h2;have hb:=iR r h3;simp only [Fo.flat,Fo.count,List.length_cons,List.length_append] at hm ⊢;rw [List.take_succ_cons,RM,List.take_append,kK];by_cases hk:m < k.flat.length
  ·have:=ha m hk;rw [show m - k.flat.length=0 by omega,List.take_zero]
   show _≤_+(_+(0:Int))
   push_cast
   omega
  ·rw [List.take_of_length_le (by omega),a];have:=hb (m - k.flat.length) (by omega)
   push_cast
   omega
theorem NQ:∀ f:Fo,f.good→∀ p∈f.flat,0≤p.n
 | .nil,_,p,hp=>by cases hp
 | .cons q k r,h,p,hp=>by
  obtain⟨h1,h2,h3⟩:=h;simp only [Fo.flat,List.mem_cons,List.mem_append] at hp;rcases hp with rfl|hp|hp
  ·omega
  ·exact NQ k h2 p hp
  ·exact NQ r h3 p hp
theorem SV {q:Pt}{k:Fo} (hl:l=q::k.flat) (hc:(k.count:Int)=q.n) (hg:k.good):Bok l l.length (bld l l.length)∧∀ j,j < l.length→(((bld l l.length).K j).length:Int)=nk l j:=by
 have hfg:(Fo.cons q k .nil).good:=⟨hc,hg,trivial⟩;have hfl:(Fo.cons q k .nil).flat=l:=by rw [hl];simp [Fo.flat]
 have h0:∀ j,j < l.length→0≤nk l j:=fun j hj=>by
  unfold nk;rw [List.getElem?_eq_getElem hj];exact NQ _ hfg _ (by rw [hfl];exact List.getElem_mem hj)
 have hpr:∀ i,FP l i=1+zN (l.take i):=fun i=>rfl
 have hB:=bok h0 (fun i hi0 hi=>by
  rw [hpr];have:=iR _ hfg i (by rw [hfl];exact hi);rw [hfl] at this;simp only [Fo.count] at this;omega) l.length (Nat.le_refl _)
 have hpos:0 < l.length:=by rw [hl];simp
 have hrem:=hB.rem hpos;have htot:FP l l.length=0:=by
  rw [hpr,List.take_length];have:=DN _ hfg;rw [hfl] at this;simp only [Fo.count] at this;omega
 rw [htot] at hrem;refine⟨hB,fun j hj=>?_⟩;by_cases ho:j∈(bld l l.length).op
 ·have hle:∀ o:List Nat,(∀ x∈o,((((bld l l.length).K x).length:Int)≤nk l x))→yH l (bld l l.length).K o=0→∀ x∈o,(((bld l l.length).K x).length:Int)=nk l x:=by
   intro o
   induction o with
   | nil=>intro _ _ x hx;cases hx
   | cons y o ih =>
    intro h1 h2 x hx;have hy:=h1 y (.head _);have hnn:∀ o:List Nat,(∀ x∈o,((((bld l l.length).K x).length:Int)≤nk l x))→0≤yH l (bld l l.length).K o:=by
     intro o
     induction o with
     | nil=>intro _;exact Int.le_refl _
     | cons z o ih2=>intro h;have:=h z (.head _);have:=ih2 (fun x hx=>h x (.tail _ hx));simp only [yH];omega
    have hn2:=hnn o (fun x hx=>h1 x (.tail _ hx));simp only [yH] at h2;rcases List.mem_cons.1 hx with rfl|hx
    ·omega
    ·exact ih (fun x hx=>h1 x (.tail _ hx)) (by omega) x hx
  exact hle _ (fun x hx=>hB.le x ((YJ l l.length).1 x hx)) hrem j ho
 ·exact hB.full j hj ho
end Shp
namespace Grd
open Go.RowKit
def Fo.take:Nat→Fo→Fo
 | 0,_=>.nil
 | _+1,.nil=>.nil
 | n+1,.cons p k r=>.cons p k (r.take n)
def Fo.drop:Nat→Fo→Fo
 | 0,f=>f
 | _+1,.nil=>.nil
 | n+1,.cons _ _ r=>r.drop n
theorem Fo.split:∀ (n:Nat) (f:Fo),n≤f.count→f.good→f.flat=(f.take n).flat++(f.drop n).flat∧(f.take n).good∧(f.drop n).good∧(f.take n).count=n∧(f.drop n).count=f.count - n:=by
 intro n
 induction n with
 | zero=>intro f _ hg;simp [Fo.take,Fo.drop,Fo.flat,Fo.good,Fo.count,hg]
 | succ n ih =>
  intro f h hg;cases f with
  | nil=>simp [Fo.count] at h
  | cons p k r =>
   obtain⟨h1,h2,h3⟩:=hg;obtain⟨a1,a2,a3,a4,a5⟩:=ih r (by simp only [Fo.count] at h;omega) h3;refine⟨?_,⟨h1,h2,a2⟩,a3,?_,?_⟩
   ·simp only [Fo.take,Fo.drop,Fo.flat];rw [a1];simp
   ·simp [Fo.take,Fo.count,a4]
   ·simp only [Fo.drop,Fo.count];rw [a5];omega
theorem UO:∀ (l:List Pt) (i:Nat) (o st:List Nat),VB (l.map Pt.n) i=some (o,st)→∃ f:Fo,f.flat=l∧f.good∧f.count=st.length:=by
 intro l
 induction l with
 | nil=>intro i o st h;simp only [List.map_nil,VB,Option.some.injEq,Prod.mk.injEq] at h;exact⟨.nil,rfl,trivial,by rw [← h.2];rfl⟩
 | cons p r ih =>
  intro i o st h;rw [List.map_cons,VB] at h;cases hr:VB (r.map Pt.n) (i+1) with
  | none=>rw [hr] at h;cases h
  | some x =>
   obtain⟨o1,st1⟩:=x;rw [hr] at h;simp only [] at h;split at h
   ·rename_i hk;obtain⟨f,h1,h2,h3⟩:=ih _ _ _ hr;simp only [Option.some.injEq,Prod.mk.injEq] at h;obtain⟨n,hn⟩:=Int.eq_ofNat_of_zero_le hk.1;obtain⟨a1,a2,a3,a4,a5⟩:=Fo.split n f (by omega) h2;refine⟨.cons p (f.take n) (f.drop n),?_,⟨by rw [a4,hn],a2,a3⟩,?_⟩
    ·simp only [Fo.flat];rw [← a1,h1]
    ·rw [← h.2,hn];simp [Fo.count,a5,h3]
   ·cases h
theorem VP (l:List Pt) (h:DG (l.map Pt.n)=true):∃ (q:Pt) (k:Fo),l=q::k.flat∧(k.count:Int)=q.n∧k.good:=by
 unfold DG at h;cases hr:VB (l.map Pt.n) 0 with
 | none=>rw [hr] at h;cases h
 | some x =>
  obtain⟨o,st⟩:=x;rw [hr] at h;obtain⟨f,h1,h2,h3⟩:=UO l 0 o st hr;cases f with
  | nil=>simp [Fo.count] at h3;simp [← h3] at h
  | cons q k r =>
   have hst:st.length=1:=by simpa using h
   have hr0:r=.nil:=by
    cases r with
    | nil=>rfl
    | cons _ _ _=>simp only [Fo.count] at h3;omega
   subst hr0;obtain⟨g1,g2,_⟩:=h2;exact⟨q,k,by rw [← h1];simp [Fo.flat],g1,g2⟩
end Grd
end Go.Proofs.YtcjmpafkcmlhbaaGreatDoor
