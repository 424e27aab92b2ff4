import Derived.Test.YtcjmpafkcmlhbaaGreatDoorZJA
import Derived.Test.YtcjmpafkcmlhbaaGreatDoorQBT
import Derived.Test.YtcjmpafkcmlhbaaGreatDoorQBV
import Derived.BigQuiet
import Derived.Deep.QuietTactic
import Derived.Deep.RegionHeld
import Derived.Test.YtcjmpafkcmlhbaaGreatDoorQAV
namespace Go.Proofs.YtcjmpafkcmlhbaaGreatDoor
open _root_.Go.Lib(hid)
set_option linter.all false
set_option maxHeartbeats 40000000
set_option maxRecDepth 100000
namespace Shp
open Go.RowKit
open Grd (Pt tB)
variable {w:World}
theorem QQ {lo n:Nat}{a:Option Addr}{cap:Nat}:∀ {l:List (Nat × Nat)},w.ownsRow lo 41 2 (.slice a n cap) n (EI l)→sV w a l:=by
 intro l h;by_cases h0:l=[]
 ·subst h0;exact .inl rfl
 right
 have hp:0 < l.length:=List.length_pos_iff.2 h0;have hat:∀ (l:List (Nat × Nat)) (j:Nat) (x:Nat × Nat),l[j]?=some x→∀ i v,(flV x)[i]?=some v→(EI l)[j*2+i]?=some v:=by
  intro l
  induction l with
  | nil=>intro j x hx;simp at hx
  | cons y l ih =>
   intro j x hx i v hv;have hl:(flV y).length=2:=rfl;have e:EI (y::l)=flV y++EI l:=rfl;cases j with
   | zero =>
    simp at hx;subst hx;have hi:i < 2:=by rw [← hl];exact (List.getElem?_eq_some_iff.1 hv).1
    rw [e,List.getElem?_append_left (by rw [hl];omega),show 0*2+i=i by omega];exact hv
   | succ j =>
    rw [e,List.getElem?_append_right (by rw [hl];omega),hl,show (j+1)*2+i - 2=j*2+i by omega];exact ih j x (by simpa using hx) i v hv
 have key:∀ (j:Nat) (x:Nat × Nat),l[j]?=some x→∀ i v,(flV x)[i]?=some v→∃ b,a=some ⟨b,0,none⟩∧b < w.heap.size∧w.cell? ⟨b,j*2+i,none⟩=some v:=fun j x hx i v hv=>by
  obtain⟨b,e,_,hb,hc⟩:=GA h (hat l j x hx i v hv);exact⟨b,e,hb,hc⟩
 obtain⟨b,e,hb,_⟩:=key 0 l[0] (List.getElem?_eq_getElem hp) 0 _ rfl;refine⟨b,0,e,hb,fun j x hx=>?_⟩;obtain⟨_,e0,_,c0⟩:=key j x hx 0 _ rfl;obtain⟨_,e1,_,c1⟩:=key j x hx 1 _ rfl;rw [e] at e0 e1;cases e0;cases e1;rw [Nat.zero_add];exact⟨c0,c1⟩
theorem fV (w:World) (b r p:Nat) (h:w.heap[b]?=some (.cells #[.int .u8 (r:Int),.int .i64 (p:Int)] 41 (0,0))):sV w (some ⟨b,0,none⟩) [(r,p)]:=by
 refine .inr ⟨b,0,rfl,RA h,fun j x hj=>?_⟩;have hl:j < 1:=(List.getElem?_eq_some_iff.1 hj).1;have hc:j=0:=by omega
 unfold World.cell?;rw [h];subst hc;cases hj;exact⟨rfl,rfl⟩
def SN (x:List (Nat × Nat)) (w:World) (e:Ending) (w':World):Prop:=∃ a c,e=.returned (.tuple #[.slice a x.length c,.agg #[.int .i64 0,.int .i64 0]])∧w'.ownsRow w.heap.size 41 2 (.slice a x.length c) x.length (EI x)∧Below w.heap.size w w'
theorem zO {goal:UInt8}{s:List UInt8}{x:List (Nat × Nat)} (h:jN goal s=some x) (w:World) (hT:NC w):Calls Tryz.prog 25 #[.int .u8 (goal.toNat:Int),.string ⟨s.toArray⟩] w (SN x w):=by
 obtain⟨l,t,hr,hx⟩:=nR h;have h1:=bU goal s hT;rw [hr] at h1;refine h1.mono ?_;rintro e w2 ⟨v,rfl,hq,hb⟩;have hq:w2.ownsRow w.heap.size 41 2 v (AA (oE s l t) (oE s l t).length).length (EI (AA (oE s l t) (oE s l t).length)):=hq;rw [hx] at hq;obtain⟨a,c,rfl⟩:=Grd.ID hq;exact⟨a,c,rfl,hq,hb⟩
theorem tJ (hT:NC w):Calls Tryz.prog 13 #[] w (fun e w'=>e=.returned (.bool true)∧Below w.heap.size w w'):=by
 have H1:∀ w,NC w→Calls Tryz.prog 25 #[.int .u8 3,.string ⟨#[120]⟩] w (SN [(11,1)] w):=fun w h=>zO fx1 w h
 have H2:∀ w,NC w→Calls Tryz.prog 25 #[.int .u8 1,.string ⟨#[102,117,110,99,40,97,46,98,44,32,99,32,105,110,116,41]⟩] w (SN [(3,3)] w):=fun w h=>zO fx2 w h
 have H3:∀ w,NC w→Calls Tryz.prog 25 #[.int .u8 2,.string ⟨#[91,46,46,46,93,105,110,116,123,49,125]⟩] w (SN [] w):=fun w h=>zO fx3 w h
 have HT:=hid hT;have HH1:=hid H1;have HH2:=hid H2;have HH3:=hid H3;clear hT H1 H2 H3;go_enter Tryz.func13,Tryz.ntmps13;go_upto_region 1 with fail;go_wp2_with fail;refine (HH1.out _ HT.out).mono ?_;rintro e w1 ⟨a1,c1,rfl,hr1,hb1⟩;have HR1:=hid (And.intro hr1 hb1);clear hr1 hb1;go_upto_region 2 with fail;have h2:=heap_alloc_new w1 (Obj.cells #[.int .i64 0,.int .i64 0] 25);have b2:=(Below.refl w1.heap.size w1).alloc (Nat.le_refl _) (Obj.cells #[.int .i64 0,.int .i64 0] 25);have s2:w1.heap.size < (w1.alloc (Obj.cells #[.int .i64 0,.int .i64 0] 25)).heap.size:=by simp
 have HB2:=hid (dA HR1.out.2 b2);have HO2:=hid (qD HR1.out.1 (Fr.below (X:=[]) b2) (by simp));clear b2 HR1;generalize w1.alloc (Obj.cells #[.int .i64 0,.int .i64 0] 25)=wA at *;go_wp2_with fail;refine (HH2.out _ (HT.out.below HB2.out)).mono ?_;rintro e w2 ⟨a2,c2,rfl,hr2,hb2⟩;have h2:=(hb2.block _ s2).trans h2;have l2:=Nat.lt_of_lt_of_le s2 hb2.size;have HB3:=hid (dA HB2.out hb2);have HO3:=hid (And.intro (qD HO2.out (Fr.below (X:=[]) hb2) (by simp)) hr2);clear hr2 hb2 s2 HB2 HO2;go_upto_region 3 with fail;have h4:=heap_alloc_new w2 (Obj.cells #[.int .i64 0,.int .i64 0] 25);have b4:=(Below.refl w2.heap.size w2).alloc (Nat.le_refl _) (Obj.cells #[.int .i64 0,.int .i64 0] 25);have s4:w2.heap.size < (w2.alloc (Obj.cells #[.int .i64 0,.int .i64 0] 25)).heap.size:=by simp
 have h2:=(b4.block _ l2).trans h2;have HB4:=hid (dA HB3.out b4);have HO4:=hid (And.intro (qD HO3.out.1 (Fr.below (X:=[]) b4) (by simp)) (qD HO3.out.2 (Fr.below (X:=[]) b4) (by simp)));clear b4 HB3 HO3;generalize w2.alloc (Obj.cells #[.int .i64 0,.int .i64 0] 25)=wB at *;go_wp2_with fail;refine (HH3.out _ (HT.out.below HB4.out)).mono ?_;rintro e w3 ⟨a3,c3,rfl,-,hb3⟩;have h2:=(hb3.block _ (Nat.lt_trans l2 s4)).trans h2;have h4:=(hb3.block _ s4).trans h4;have l4:=Nat.lt_of_lt_of_le s4 hb3.size;have HB5:=hid (dA HB4.out hb3);have HO5:=hid (And.intro (qD HO4.out.1 (Fr.below (X:=[]) hb3) (by simp)) (qD HO4.out.2 (Fr.below (X:=[]) hb3) (by simp)));clear hb3 s4 HB4 HO4;go_upto_region 4 with fail;have h6:=heap_alloc_new w3 (Obj.cells #[.int .i64 0,.int .i64 0] 25);have b6:=(Below.refl w3.heap.size w3).alloc (Nat.le_refl _) (Obj.cells #[.int .i64 0,.int .i64 0] 25);have h2:=(b6.block _ (Nat.lt_trans l2 l4)).trans h2;have h4:=(b6.block _ l4).trans h4;have HB6:=hid (dA HB5.out b6);have HO6:=hid (And.intro (qD HO5.out.1 (Fr.below (X:=[]) b6) (by simp)) (qD HO5.out.2 (Fr.below (X:=[]) b6) (by simp)));clear b6 HB5 HO5;generalize w3.alloc (Obj.cells #[.int .i64 0,.int .i64 0] 25)=wC at *;obtain⟨g1,g2,_,_⟩:=YB h2;obtain⟨g3,g4,_,_⟩:=YB h4;obtain⟨g5,g6,_,_⟩:=YB h6;clear HH1 HH2 HH3;clear h2 h4 h6;go_wp2_with fail;have k1:=heap_alloc_new wC (Obj.cells #[.int .u8 11,.int .i64 1] 41);have d1:=(Below.refl wC.heap.size wC).alloc (Nat.le_refl _) (Obj.cells #[.int .u8 11,.int .i64 1] 41);have HB7:=hid (dA HB6.out d1);have HO7:=hid (And.intro (qD HO6.out.1 (Fr.below (X:=[]) d1) (by simp)) (qD HO6.out.2 (Fr.below (X:=[]) d1) (by simp)));clear d1 HB6 HO6;generalize wC.alloc (Obj.cells #[.int .u8 11,.int .i64 1] 41)=wD at *;refine (sK (w:=wD) a1 (some ⟨wC.heap.size,0,none⟩) c1 1 [(11,1)] (by decide) (QQ HO7.out.1) (fV wD _ 11 1 k1)).mono ?_;rintro e w4 ⟨rfl,hb4⟩;have HB8:=hid (dA HB7.out hb4);have HO8:=hid (qD HO7.out.2 (Fr.below (X:=[]) hb4) (by simp));clear k1 hb4 HB7 HO7;go_wp2_with fail;have k2:=heap_alloc_new w4 (Obj.cells #[.int .u8 3,.int .i64 3] 41);have d2:=(Below.refl w4.heap.size w4).alloc (Nat.le_refl _) (Obj.cells #[.int .u8 3,.int .i64 3] 41);have HB9:=hid (dA HB8.out d2);have HO9:=hid (qD HO8.out (Fr.below (X:=[]) d2) (by simp));clear d2 HB8 HO8;generalize w4.alloc (Obj.cells #[.int .u8 3,.int .i64 3] 41)=wE at *;refine (sK (w:=wE) a2 (some ⟨w4.heap.size,0,none⟩) c2 1 [(3,3)] (by decide) (QQ HO9.out) (fV wE _ 3 3 k2)).mono ?_;rintro e w5 ⟨rfl,hb5⟩;have HBA:=hid (dA HB9.out hb5);clear k2 hb5 HB9 HO9;go_wp2_with fail;go_ret;exact⟨rfl,HBA.out⟩
end Shp
namespace Shp
open Go.RowKit
open Grd (Pt tB)
def VX (a b:Nat × Nat):Prop:=a.2 < b.2∨a.2=b.2∧a.1 < b.1
theorem fK {l:List Pt}{i r:Nat}{x:Nat × Nat} (h:x∈iB l i r):x.2=i∧1≤x.1∧x.1≤r:=by
 unfold iB at h;obtain⟨k,hk,rfl⟩:=List.mem_map.1 h;have:=List.mem_range.1 (List.mem_filter.1 hk).1;exact⟨rfl,by simp,by simp;omega⟩
theorem jY {l:List Pt}{n:Nat}{x:Nat × Nat} (h:x∈AA l n):x.2 < n∧1≤x.1∧x.1≤15:=by
 unfold AA at h;obtain⟨i,hi,hx⟩:=List.mem_flatMap.1 h;have:=List.mem_range.1 hi;obtain⟨h1,h2,h3⟩:=fK hx;exact⟨by omega,h2,h3⟩
theorem aT (l:List Pt) (n:Nat):(AA l n).Pairwise VX:=by
 unfold AA;rw [List.pairwise_flatMap];refine⟨fun i _=>?_,?_⟩
 ·unfold iB;rw [List.pairwise_map];exact (List.pairwise_lt_range.sublist List.filter_sublist).imp fun h=>.inr ⟨rfl,by simp;omega⟩
 ·refine List.pairwise_lt_range.imp fun {a b} hab x hx y hy=>?_
  have h1:=(fK hx).1;have h2:=(fK hy).1;exact .inl (by omega)
theorem vW {l:List Pt}{n j:Nat}{x y:Nat × Nat} (hx:(AA l n)[j]?=some x) (hy:(AA l n)[j+1]?=some y):VX x y:=by
 obtain⟨h1,e1⟩:=List.getElem?_eq_some_iff.1 hx;obtain⟨h2,e2⟩:=List.getElem?_eq_some_iff.1 hy;have:=List.pairwise_iff_getElem.1 (aT l n) j (j+1) h1 h2 (by omega)
 rwa [e1,e2] at this
theorem CY (l:List Pt) (n:Nat):(AA l n).length≤15*n:=by
 induction n with
 | zero=>simp [AA]
 | succ n ih =>
  have h1:AA l (n+1)=AA l n++iB l n 15:=by simp [AA,List.range_succ]
  have h2:(iB l n 15).length≤15:=by
   unfold iB;rw [List.length_map];exact Nat.le_trans (List.length_filter_le _ _) (by simp)
  rw [h1,List.length_append];omega
end Shp
namespace Shp
open Grd (Pt Fo)
def pZ:Fo→Nat→List Nat
 | .nil,_=>[]
 | .cons _ k r,o=>o::pZ r (o+1+k.size)
def kF:Fo→Nat→Nat→List Nat
 | .nil,_,_=>[]
 | .cons _ k r,o,x=>if x=o then pZ k (o+1) else if x < o+1+k.size then kF k (o+1) x else kF r (o+1+k.size) x
def eF:Fo→Nat→Nat→Nat
 | .nil,_,_=>0
 | .cons _ k r,o,x=>if x=o then o+1+k.size else if x < o+1+k.size then eF k (o+1) x else eF r (o+1+k.size) x
theorem xZ:∀ (f:Fo) (o:Nat),(pZ f o).length=f.count
 | .nil,_=>rfl
 | .cons _ k r,o=>by simp [pZ,Fo.count,xZ r]
theorem BZ (d:Nat):∀ (f:Fo) (o:Nat),pZ f (o+d)=(pZ f o).map (·+d)
 | .nil,_=>rfl
 | .cons _ k r,o=>by
  simp only [pZ,List.map_cons];rw [show o+d+1+k.size=o+1+k.size+d by omega,BZ d r]
theorem MZ (d:Nat):∀ (f:Fo) (o x:Nat),kF f (o+d) (x+d)=(kF f o x).map (·+d)
 | .nil,_,_=>rfl
 | .cons _ k r,o,x=>by
  simp only [kF];rw [show o+d+1+k.size=o+1+k.size+d by omega,show o+d+1=o+1+d by omega,BZ,MZ d k,MZ d r];by_cases h:x=o
  ·rw [if_pos (by omega),if_pos h]
  ·rw [if_neg (by omega),if_neg h];by_cases h2:x < o+1+k.size
   ·rw [if_pos (by omega),if_pos h2]
   ·rw [if_neg (by omega),if_neg h2]
theorem CZ:∀ (f:Fo) (o y:Nat),y∈pZ f o→o≤y∧y < o+f.size
 | .nil,_,_,h=>by cases h
 | .cons _ k r,o,y,h=>by
  simp only [pZ,List.mem_cons] at h;simp only [Fo.size];rcases h with rfl|h
  ·omega
  ·have:=CZ r _ _ h;omega
theorem wQ0:∀ (f:Fo) (o x y:Nat),o≤x→y∈kF f o x→x < y∧y < o+f.size
 | .nil,_,_,_,_,h=>by cases h
 | .cons _ k r,o,x,y,hx,h=>by
  simp only [kF] at h;simp only [Fo.size];split at h
  ·have:=CZ _ _ _ h;omega
  ·split at h
   ·have:=wQ0 k _ _ _ (by omega) h;omega
   ·have:=wQ0 r _ _ _ (by omega) h;omega
def app:Fo→Fo→Fo
 | .nil,g=>g
 | .cons p k r,g=>.cons p k (app r g)
theorem lQ0:∀ (f g:Fo),(app f g).flat=f.flat++g.flat
 | .nil,_=>rfl
 | .cons p k r,g=>by simp [app,Fo.flat,lQ0 r]
theorem rQ0:∀ (f g:Fo),(app f g).size=f.size+g.size
 | .nil,_=>by simp [app,Fo.size]
 | .cons p k r,g=>by simp [app,Fo.size,rQ0 r];omega
theorem hQ0:∀ (f g:Fo),(app f g).count=f.count+g.count
 | .nil,_=>by simp [app,Fo.count]
 | .cons p k r,g=>by simp [app,Fo.count,hQ0 r];omega
theorem qQ0:∀ (f g:Fo),f.good→g.good→(app f g).good
 | .nil,_,_,h=>h
 | .cons _ _ r,g,h,hg=>⟨h.1,h.2.1,qQ0 r g h.2.2 hg⟩
theorem iQ0:∀ (f g:Fo) (o:Nat),pZ (app f g) o=pZ f o++pZ g (o+f.size)
 | .nil,_,_=>by simp [app,pZ,Fo.size]
 | .cons _ k r,g,o=>by simp only [app,pZ,Fo.size,iQ0 r,List.cons_append];rw [show o+1+k.size+r.size=o+(1+k.size+r.size) by omega]
theorem tQ0:∀ (f g:Fo) (o x:Nat),o≤x→x < o+f.size→kF (app f g) o x=kF f o x
 | .nil,_,o,x,hx,h=>by simp only [Fo.size] at h;omega
 | .cons _ k r,g,o,x,hx,h=>by
  simp only [Fo.size] at h;simp only [app,kF];by_cases h1:x=o
  ·rw [if_pos h1,if_pos h1]
  ·rw [if_neg h1,if_neg h1];by_cases h2:x < o+1+k.size
   ·rw [if_pos h2,if_pos h2]
   ·rw [if_neg h2,if_neg h2,tQ0 r g _ _ (by omega) (by omega)]
theorem uQ0:∀ (f g:Fo) (o x:Nat),o+f.size≤x→kF (app f g) o x=kF g (o+f.size) x
 | .nil,_,_,_,_=>rfl
 | .cons _ k r,g,o,x,h=>by
  simp only [Fo.size] at h;simp only [app,kF];rw [if_neg (by omega),if_neg (by omega),uQ0 r g _ _ (by omega)];simp only [Fo.size];rw [show o+1+k.size+r.size=o+(1+k.size+r.size) by omega]
theorem YZ:∀ (f:Fo) (o x:Nat),f.good→o≤x→x < o+f.size→∃ (p:Pt) (k:Fo) (a b:List Pt),f.flat=a++(p::k.flat)++b∧a.length+o=x∧(k.count:Int)=p.n∧k.good∧x+1+k.size≤o+f.size∧eF f o x=x+1+k.size ∧
  ∀ y,x≤y→y < x+1+k.size→kF f o y=kF (.cons p k .nil) x y
 | .nil,o,x,_,h1,h2=>by simp only [Fo.size] at h2;omega
 | .cons q k r,o,x,h,h1,h2=>by
  simp only [Fo.size] at h2;by_cases hx:x=o
  ·subst hx;refine⟨q,k,[],r.flat,by simp [Fo.flat],by simp,h.1,h.2.1,by simp only [Fo.size];omega,by simp [eF],fun y hy1 hy2=>?_⟩;simp only [kF];by_cases hy:y=x
   ·rw [if_pos hy,if_pos hy]
   ·rw [if_neg hy,if_neg hy,if_pos hy2,if_pos hy2]
  ·by_cases hk:x < o+1+k.size
   ·obtain⟨p,k',a,b,e1,e2,e3,e4,e5,e6,e7⟩:=YZ k (o+1) x h.2.1 (by omega) (by omega);refine⟨p,k',q::a,b++r.flat,by simp [Fo.flat,e1],by simp;omega,e3,e4,by simp only [Fo.size];omega,by simp only [eF];rw [if_neg hx,if_pos hk,e6],fun y hy1 hy2=>?_⟩;rw [← e7 y hy1 hy2];simp only [kF];rw [if_neg (by omega),if_pos (by omega)]
   ·obtain⟨p,k',a,b,e1,e2,e3,e4,e5,e6,e7⟩:=YZ r (o+1+k.size) x h.2.2 (by omega) (by omega);refine⟨p,k',q::(k.flat++a),b,by simp [Fo.flat,e1],by simp [Fo.flat_len];omega,e3,e4,by simp only [Fo.size];omega,by simp only [eF];rw [if_neg hx,if_neg hk,e6],fun y hy1 hy2=>?_⟩;rw [← e7 y hy1 hy2];simp only [kF];rw [if_neg (by omega),if_neg (by omega)]
theorem NZ:∀ (f:Fo) (i:Nat) (r:List Int) (o st:List Nat),f.good→Grd.VB r (i+f.size)=some (o,st) →
  ∃ oF,Grd.VB (f.flat.map Pt.n++r) i=some (oF++o,pZ f i++st)∧oF.length=f.size∧(∀ x,i≤x→x < i+f.size→oF[x - i]?=some (eF f i x)) ∧
   (1≤f.count→(oF++o).getD ((pZ f i).getD (f.count - 1) 0 - i) 0=i+f.size)
 | .nil,i,r,o,st,_,h=>⟨[],by simpa [Fo.flat,pZ,Fo.size] using h,rfl,fun x h1 h2=>by simp only [Fo.size] at h2;omega,fun h=>by simp [Fo.count] at h⟩
 | .cons p k rs,i,r,o,st,hg,h=>by
  obtain⟨g1,g2,g3⟩:=hg;simp only [Fo.size] at h;obtain⟨oR,hR,lR,xR,zR⟩:=NZ rs (i+1+k.size) r o st g3 (by rw [show i+1+k.size+rs.size=i+(1+k.size+rs.size) by omega];exact h);obtain⟨oK,hK,lK,xK,zK⟩:=NZ k (i+1) (rs.flat.map Pt.n++r) _ _ g2 hR;have hlen:=xZ k (i+1);have hend:(if p.n=0 then i+1 else (oK++(oR++o)).getD ((pZ k (i+1)++(pZ rs (i+1+k.size)++st)).getD (p.n.toNat - 1) 0 - (i+1)) 0)=i+1+k.size:=by
   by_cases hz:k.count=0
   ·rw [if_pos (by omega)];cases k with
    | nil=>simp [Fo.size]
    | cons _ _ _=>simp [Fo.count] at hz
   ·rw [if_neg (by omega)];have h2:p.n.toNat=k.count:=by omega
    have h3:=zK (by omega);rw [h2,show (pZ k (i+1)++(pZ rs (i+1+k.size)++st)).getD (k.count - 1) 0=(pZ k (i+1)).getD (k.count - 1) 0 by
     rw [List.getD_eq_getElem?_getD,List.getElem?_append_left (by omega),List.getD_eq_getElem?_getD]]
    exact h3
  have hmain:Grd.VB ((Fo.cons p k rs).flat.map Pt.n++r) i=some ((i+1+k.size)::oK++oR++o,i::pZ rs (i+1+k.size)++st):=by
   simp only [Fo.flat,List.map_cons,List.map_append,List.cons_append,List.append_assoc];rw [Grd.VB,hK];simp only [];rw [if_pos ⟨by omega,by simp [hlen];omega⟩,hend];have h2:p.n.toNat=(pZ k (i+1)).length:=by omega
   rw [h2,List.drop_left]
  refine⟨(i+1+k.size)::oK++oR,by rw [hmain];simp [pZ],by simp [Fo.size,lK,lR];omega,fun x h1 h2=>?_,fun _=>?_⟩
  ·simp only [Fo.size] at h2;simp only [eF];by_cases hx:x=i
   ·subst hx;simp
   ·rw [if_neg hx,List.cons_append,show x - i=(x - (i+1))+1 by omega,List.getElem?_cons_succ];by_cases hk:x < i+1+k.size
    ·rw [if_pos hk,List.getElem?_append_left (by omega)];exact xK x (by omega) hk
    ·rw [if_neg hk,List.getElem?_append_right (by omega),show x - (i+1) - oK.length=x - (i+1+k.size) by omega];exact xR x (by omega) (by omega)
  ·simp only [Fo.count,Fo.size,pZ,Nat.add_sub_cancel];by_cases hz:rs.count=0
   ·have:rs=.nil:=by
     cases rs with
     | nil=>rfl
     | cons _ _ _=>simp [Fo.count] at hz
    subst this;simp [Fo.count,Fo.size];omega
   ·have h3:=zR (by omega);have hro:=xZ rs (i+1+k.size);have hmem:(pZ rs (i+1+k.size)).getD (rs.count - 1) 0∈pZ rs (i+1+k.size):=by
     rw [List.getD_eq_getElem?_getD,List.getElem?_eq_getElem (by omega)];exact List.getElem_mem _
    have hin:=CZ _ _ _ hmem;have e1:(i::pZ rs (i+1+k.size)).getD rs.count 0=(pZ rs (i+1+k.size)).getD (rs.count - 1) 0:=by
     obtain⟨m,hm⟩:∃ m,rs.count=m+1:=⟨rs.count - 1,by omega⟩;rw [hm];simp
    rw [e1];generalize (pZ rs (i+1+k.size)).getD (rs.count - 1) 0=y at *;rw [show y - i=(y - (i+1+k.size))+oK.length+1 by omega];simp only [List.cons_append,List.append_assoc,List.getD_eq_getElem?_getD,List.getElem?_cons_succ] at h3 ⊢;rw [List.getElem?_append_right (by omega),Nat.add_sub_cancel,h3];omega
theorem bQ0 {q:Pt}{k:Fo} (hc:(k.count:Int)=q.n) (hg:k.good):Grd.DG ((q::k.flat).map Pt.n)=true∧∃ o,Grd.VB ((q::k.flat).map Pt.n) 0=some (o,[0])∧o.length=k.size+1∧∀ x,x < k.size+1→o[x]?=some (eF (.cons q k .nil) 0 x):=by
 obtain⟨oF,h1,h2,h3,_⟩:=NZ (.cons q k .nil) 0 [] [] [] ⟨hc,hg,trivial⟩ rfl;have e:(Fo.cons q k .nil).flat.map Pt.n++[]=(q::k.flat).map Pt.n:=by simp [Fo.flat]
 rw [e] at h1;simp only [pZ,List.append_nil] at h1;simp only [Fo.size] at h2 h3;refine⟨by unfold Grd.DG;rw [h1];rfl,oF,h1,by omega,fun x hx=>?_⟩;have:=h3 x (by omega) (by omega);simpa using this
end Shp
namespace Shp
open Grd (Pt Fo)
theorem TZ:∀ (f:Fo) (l:List Pt) (i t:Nat) (r:List Nat),f.good→(∀ m,m < f.size→l[i+m]?=f.flat[m]?)→TF l (bld l i).K (bld l i).op=TF l (bld l i).K (t::r)→t < i →
  ((bld l i).K t).length+(f.count:Int)≤nk l t →
  TF l (bld l (i+f.size)).K (bld l (i+f.size)).op=TF l (bld l (i+f.size)).K (t::r)∧(bld l (i+f.size)).K t=(bld l i).K t++pZ f i ∧
   (∀ x,x < i→x≠t→(bld l (i+f.size)).K x=(bld l i).K x)∧(∀ x,i≤x→x < i+f.size→(bld l (i+f.size)).K x=kF f i x)
 | .nil,l,i,t,r,_,_,hp,_,_=>⟨hp,by simp [pZ,Fo.size],fun _ _ _=>rfl,fun x h1 h2=>by simp only [Fo.size] at h2;omega⟩
 | .cons p k rs,l,i,t,r,hg,hat,hp,ht,hc=>by
  obtain⟨g1,g2,g3⟩:=hg;have hpi:l[i]?=some p:=by have:=hat 0 (by simp [Fo.size];omega);simpa [Fo.flat] using this
  have hni:nk l i=p.n:=by unfold nk;rw [hpi];rfl
  have htf:¬ (((bld l i).K t).length:Int)=nk l t:=by simp only [Fo.count] at hc;omega
  have hpp:TF l (bld l i).K (bld l i).op=t::r:=by rw [hp];unfold TF;rw [if_neg htf]
  have hb1:bld l (i+1)=⟨i::t::r,upd (bld l i).U i (some t),upd (bld l i).T i ((bld l i).K t).length,upd (upd (bld l i).K i []) t ((bld l i).K t++[i])⟩:=by
   show sI l (bld l i) i=_
   unfold sI;rw [hpp]
  have hti:t≠i:=by omega
  have hK1t:(bld l (i+1)).K t=(bld l i).K t++[i]:=by rw [hb1];exact fD _ _ _
  have hK1i:(bld l (i+1)).K i=[]:=by rw [hb1];show upd _ _ _ i=_;rw [EC _ _ (fun h=>hti h.symm),fD]
  have hK1x:∀ x,x < i→x≠t→(bld l (i+1)).K x=(bld l i).K x:=fun x hx hxt=>by rw [hb1];show upd _ _ _ x=_;rw [EC _ _ hxt,EC _ _ (by omega)]
  obtain⟨a1,a2,a3,a4⟩:=TZ k l (i+1) i (t::r) g2 (fun m hm=>by
    have:=hat (1+m) (by simp only [Fo.size];omega);rw [show i+1+m=i+(1+m) by omega,this];simp only [Fo.flat];rw [show 1+m=m+1 by omega,List.getElem?_cons_succ,List.getElem?_append_left (by rw [Fo.flat_len];omega)]) (by rw [hb1]) (by omega) (by rw [hK1i,hni];simp;omega)
  rw [hK1i,List.nil_append] at a2;have hfull:((((bld l (i+1+k.size)).K i).length:Nat):Int)=nk l i:=by rw [a2,xZ,hni];exact g1
  have hpop:TF l (bld l (i+1+k.size)).K (i::t::r)=TF l (bld l (i+1+k.size)).K (t::r):=by rw [TF,if_pos hfull]
  have hKt:=a3 t (by omega) (by omega);obtain⟨b1,b2,b3,b4⟩:=TZ rs l (i+1+k.size) t r g3 (fun m hm=>by
    have:=hat (1+k.size+m) (by simp only [Fo.size];omega);rw [show i+1+k.size+m=i+(1+k.size+m) by omega,this];simp only [Fo.flat];rw [show 1+k.size+m=(k.size+m)+1 by omega,List.getElem?_cons_succ,List.getElem?_append_right (by rw [Fo.flat_len];omega),Fo.flat_len,Nat.add_sub_cancel_left]) (a1.trans hpop) (by omega) (by rw [hKt,hK1t];simp only [Fo.count] at hc;simp;omega)
  simp only [Fo.size];rw [show i+(1+k.size+rs.size)=i+1+k.size+rs.size by omega];refine⟨b1,by rw [b2,hKt,hK1t,pZ,List.append_assoc];rfl,fun x hx hxt=>by rw [b3 x (by omega) hxt,a3 x (by omega) (by omega),hK1x x hx hxt],fun x h1 h2=>?_⟩;simp only [kF];by_cases hx:x=i
  ·subst hx;rw [if_pos rfl,b3 x (by omega) (fun h=>hti h.symm),a2]
  ·rw [if_neg hx];by_cases hk:x < i+1+k.size
   ·rw [if_pos hk,b3 x hk (by omega),a4 x (by omega) hk]
   ·rw [if_neg hk,b4 x (by omega) h2]
theorem vQ0 {l:List Pt}{q:Pt}{k:Fo} (hl:l=q::k.flat) (hc:(k.count:Int)=q.n) (hg:k.good):∀ x,x < l.length→(bld l l.length).K x=kF (.cons q k .nil) 0 x:=by
 have hn:nk l 0=q.n:=by rw [hl];rfl
 have hlen:l.length=1+k.size:=by rw [hl];simp [Fo.flat_len];omega
 obtain⟨a1,a2,a3,a4⟩:=TZ k l 1 0 [] hg (fun m hm=>by rw [hl,show 1+m=m+1 by omega,List.getElem?_cons_succ]) rfl (by omega) (by show (0:Int)+_≤_;omega);intro x hx;rw [hlen];simp only [kF];by_cases h0:x=0
 ·subst h0;rw [if_pos rfl,a2];rfl
 ·rw [if_neg h0,if_pos (by omega),a4 x (by omega) (by omega)]
end Shp
namespace Shp
open Grd (Pt Fo)
structure Cut (l l':List Pt) (K K':Nat→List Nat) (s e d:Nat):Prop where
 at':∀ x,s≤x→x < e→l'[x+d]?=l[x]?
 kid:∀ x,s≤x→x < e→K' (x+d)=(K x).map (·+d)
 inn:∀ x k,s≤x→x < e→k∈K x→s≤k∧k < e
theorem tZ {a b b':Bool} (h:a=true→b=b'):(a&&b)=(a&&b'):=by
 cases a with
 | false=>rfl
 | true=>rw [h rfl]
theorem xQ0 {a b b':Bool} (h:a=false→b=b'):(a||b)=(a||b'):=by
 cases a with
 | true=>rfl
 | false=>rw [h rfl]
theorem zZ {p p':Nat→Bool}{d:Nat}:∀ {L:List Nat},(∀ k∈L,p' (k+d)=p k)→(L.map (·+d)).any p'=L.any p
 | [],_=>rfl
 | x::L,h=>by rw [List.map_cons,List.any_cons,List.any_cons,h x (.head _),zZ (fun k hk=>h k (.tail _ hk))]
theorem eQ0 {p p':Nat→Bool}{d:Nat}:∀ {L:List Nat},(∀ k∈L,p' (k+d)=p k)→(L.map (·+d)).all p'=L.all p
 | [],_=>rfl
 | x::L,h=>by rw [List.map_cons,List.all_cons,List.all_cons,h x (.head _),eQ0 (fun k hk=>h k (.tail _ hk))]
theorem rZ {a:Option UInt8}{b:UInt8} (h:(a==some b)=true):a=some b:=by simpa using h
section
variable {l l':List Pt}{K K':Nat→List Nat}{U U':Nat→Option Nat}{T T':Nat→Nat}{s e d i:Nat}
theorem oZ (hC:Cut l l' K K' s e d) {x:Nat} (h1:s≤x) (h2:x < e):kd l' (x+d)=kd l x:=by unfold kd;rw [hC.at' x h1 h2]
theorem wZ (hC:Cut l l' K K' s e d) {x:Nat} (h1:s≤x) (h2:x < e):wd l' (x+d)=wd l x:=by unfold wd;rw [hC.at' x h1 h2]
theorem uZ (hC:Cut l l' K K' s e d) {x:Nat} (h1:s≤x) (h2:x < e):(K' (x+d)).length=(K x).length:=by rw [hC.kid x h1 h2,List.length_map]
theorem DZ (hC:Cut l l' K K' s e d) {x n:Nat} (h1:s≤x) (h2:x < e) (hn:n < (K x).length):∃ y,(K x).getD n 0=y∧(K' (x+d)).getD n 0=y+d∧s≤y∧y < e:=by
 have h3:=hC.inn x ((K x)[n]) h1 h2 (List.getElem_mem hn);refine⟨(K x)[n],by simp [List.getD_eq_getElem?_getD,hn],?_,h3.1,h3.2⟩;rw [hC.kid x h1 h2];simp [List.getD_eq_getElem?_getD,hn]
theorem sZ (hW:Wf l K U T) {x n:Nat}{k:UInt8} (hk:kd l x=some k) (hn:(n:Int) < (gD k.toNat).1):n < (K x).length:=by
 unfold kd at hk;obtain⟨p,hp,rfl⟩:=Option.map_eq_some_iff.1 hk;have h1:=(hW.ar x p hp).1;have h2:=hW.kids x p hp;omega
theorem qZ (hC:Cut l l' K K' s e d) (hW:Wf l K U T) {x n:Nat}{k:UInt8} (h1:s≤x) (h2:x < e) (hk:kd l x=some k) (hn:(n:Int) < (gD k.toNat).1):∃ y,(K x).getD n 0=y∧(K' (x+d)).getD n 0=y+d∧s≤y∧y < e :=
 DZ hC h1 h2 (sZ hW hk hn)
theorem VZ (hC:Cut l l' K K' s e d) (hW:Wf l K U T):∀ (n f f' x:Nat),s≤x→x < e→e - x≤n→e - x≤f→e - x≤f'→XF l' K' f' (x+d)=XF l K f x+d∧s≤XF l K f x∧XF l K f x < e
 | 0,f,f',x,h1,h2,h3,_,_=>by omega
 | n+1,0,_,x,h1,h2,_,h4,_=>by omega
 | n+1,f+1,0,x,h1,h2,_,_,h5=>by omega
 | n+1,f+1,f'+1,x,h1,h2,h3,h4,h5=>by
  simp only [XF];rw [oZ hC h1 h2];by_cases hk:kd l x=some 28
  ·rw [if_pos hk,if_pos hk];have hn:0 < (K x).length:=sZ hW hk (by decide);have h6:=hC.inn x ((K x)[0]) h1 h2 (List.getElem_mem hn);have h7:=hW.kin x ((K x)[0]) (List.getElem_mem hn);have e1:(K x).getD 0 x=(K x)[0]:=by simp [List.getD_eq_getElem?_getD,hn]
   have e2:(K' (x+d)).getD 0 (x+d)=(K x)[0]+d:=by rw [hC.kid x h1 h2];simp [List.getD_eq_getElem?_getD,hn]
   rw [e1,e2];exact VZ hC hW n f f' _ h6.1 h6.2 (by omega) (by omega) (by omega)
  ·rw [if_neg hk,if_neg hk];exact⟨rfl,h1,h2⟩
theorem RZ (hC:Cut l l' K K' s e d) (hW:Wf l K U T) (he:e≤l.length) (he':e+d≤l'.length) {x:Nat} (h1:s≤x) (h2:x < e) :
  XF l' K' l'.length (x+d)=XF l K l.length x+d∧s≤XF l K l.length x∧XF l K l.length x < e:=VZ hC hW e _ _ x h1 h2 (by omega) (by omega) (by omega)
theorem GZ (hC:Cut l l' K K' s e d) (hW:Wf l K U T) (he:e≤l.length) (he':e+d≤l'.length) {x:Nat} (h1:s≤x) (h2:x < e):MU l' K' (x+d)=MU l K x:=by
 obtain⟨a1,a2,a3⟩:=RZ hC hW he he' h1 h2;unfold MU;rw [a1,oZ hC a2 a3,wZ hC a2 a3]
theorem QZ (hC:Cut l l' K K' s e d) {x:Nat} (h1:s≤x) (h2:x < e):OD l' K' (x+d)=OD l K x:=by
 unfold OD;rw [hC.kid x h1 h2];exact eQ0 fun k hk=>by
  have:=hC.inn x k h1 h2 hk;rw [oZ hC this.1 this.2]
theorem oQ0 (hC:Cut l l' K K' s e d) {x:Nat} (h1:s≤x) (h2:x < e):YM l' (x+d)=YM l x:=by
 unfold YM;rw [oZ hC h1 h2,wZ hC h1 h2]
theorem yZ (hC:Cut l l' K K' s e d) (hW:Wf l K U T) {x:Nat} (h1:s≤x) (h2:x < e):XE l' K' (x+d)=XE l K x:=by
 unfold XE;rw [oZ hC h1 h2];exact tZ fun h=>by
  obtain⟨y,y1,y2,y3,y4⟩:=qZ hC hW (n:=0) h1 h2 (rZ h) (by decide);rw [y1,y2,oZ hC y3 y4]
theorem LZ (hC:Cut l l' K K' s e d) {x:Nat} (h1:s≤x) (h2:x < e):kI l' K' (x+d)=kI l K x:=by
 unfold kI;rw [oZ hC h1 h2,hC.kid x h1 h2];exact tZ fun _=>zZ fun k hk=>by
  have:=hC.inn x k h1 h2 hk;exact oQ0 hC this.1 this.2
theorem fQ0 (hC:Cut l l' K K' s e d) (hW:Wf l K U T) {x:Nat} (h1:s≤x) (h2:x < e):qS l' K' (x+d)=qS l K x:=by
 unfold qS k0;rw [oZ hC h1 h2];exact tZ fun h=>by
  have hn:0 < (K x).length:=by
   rcases Bool.or_eq_true _ _ ▸ h with h|h
   ·exact sZ hW (rZ h) (by decide)
   ·exact sZ hW (rZ h) (by decide)
  obtain⟨y,y1,y2,y3,y4⟩:=DZ hC h1 h2 hn;rw [y1,y2,oZ hC y3 y4]
def UR (l l':List Pt) (U U':Nat→Option Nat) (T T':Nat→Nat) (s e d i:Nat):Prop :=
 (∃ j,s≤j∧j < e∧U i=some j∧U' (i+d)=some (j+d)∧T' (i+d)=T i)∨∃ j j',U i=some j∧U' (i+d)=some j'∧kd l j=some 13∧kd l' j'=some 13
theorem r1 (hC:Cut l l' K K' s e d) (h1:s≤i) (h2:i < e) (hU:UR l l' U U' T T' s e d i):b1 l' U' T' (i+d)=b1 l U T i:=by
 unfold b1 uk;rw [oZ hC h1 h2];rcases hU with ⟨j,j1,j2,u1,u2,u3⟩|⟨j,j',u1,u2,k1,k2⟩
 ·rw [u1,u2,u3,Option.bind_some,Option.bind_some,oZ hC j1 j2]
 ·rw [u1,u2,Option.bind_some,Option.bind_some,k1,k2];rfl
theorem r3 (hC:Cut l l' K K' s e d) (hW:Wf l K U T) (h1:s≤i) (h2:i < e) (hU:UR l l' U U' T T' s e d i):lI l' K' U' T' (i+d)=lI l K U T i:=by
 unfold lI;rw [oZ hC h1 h2];refine tZ fun hk=>?_
 rcases hU with ⟨j,j1,j2,u1,u2,u3⟩|⟨j,j',u1,u2,k1,k2⟩
 ·obtain⟨y,y1,y2,y3,y4⟩:=qZ hC hW (n:=1) h1 h2 (rZ hk) (by decide);rw [u1,u2,u3];simp only [];rw [oZ hC j1 j2,yZ hC hW h1 h2,hC.kid j j1 j2,zZ (p:=XE l K) (fun k hk=>by
    have:=hC.inn j k j1 j2 hk;exact yZ hC hW this.1 this.2),← List.map_drop,zZ (p:=XE l K) (fun k hk=>by
    have:=hC.inn j k j1 j2 (List.mem_of_mem_drop hk);exact yZ hC hW this.1 this.2),y1,y2,oZ hC y3 y4]
 ·rw [u1,u2];simp only [];rw [k1,k2];rfl
theorem r4 (hC:Cut l l' K K' s e d) (h1:s≤i) (h2:i < e) (hU:UR l l' U U' T T' s e d i):b4 l' K' U' T' (i+d)=b4 l K U T i:=by
 unfold b4;rw [oZ hC h1 h2,wZ hC h1 h2];rcases hU with ⟨j,j1,j2,u1,u2,u3⟩|⟨j,j',u1,u2,k1,k2⟩
 ·rw [u1,u2,u3];simp only [];rw [oZ hC j1 j2,uZ hC j1 j2]
 ·rw [u1,u2];simp only [];rw [k1,k2];rfl
theorem r5 (hC:Cut l l' K K' s e d) (hW:Wf l K U T) (h1:s≤i) (h2:i < e):b5 l' K' (i+d)=b5 l K i:=by
 unfold b5 k0;rw [oZ hC h1 h2];refine tZ fun h=>?_
 have hn:0 < (K i).length:=by
  rcases Bool.or_eq_true _ _ ▸ h with h|h
  ·exact sZ hW (rZ h) (by decide)
  ·exact sZ hW (rZ h) (by decide)
 obtain⟨y,y1,y2,y3,y4⟩:=DZ hC h1 h2 hn;rw [y1,y2,oZ hC y3 y4]
theorem r6 (hC:Cut l l' K K' s e d) (hW:Wf l K U T) (h1:s≤i) (h2:i < e):b6 l' K' (i+d)=b6 l K i:=by
 unfold b6 k0;rw [oZ hC h1 h2,wZ hC h1 h2];refine tZ fun h=>?_
 obtain⟨y,y1,y2,y3,y4⟩:=qZ hC hW (n:=0) h1 h2 (rZ h) (by decide);rw [y1,y2,QZ hC y3 y4]
theorem r7 (hC:Cut l l' K K' s e d) (hW:Wf l K U T) (h1:s≤i) (h2:i < e):LK l' K' (i+d)=LK l K i:=by
 unfold LK k0 k1;rw [oZ hC h1 h2,wZ hC h1 h2];refine tZ fun h=>?_
 obtain⟨y,y1,y2,y3,y4⟩:=qZ hC hW (n:=0) h1 h2 (rZ h) (by decide);obtain⟨z,z1,z2,z3,z4⟩:=qZ hC hW (n:=1) h1 h2 (rZ h) (by decide);rw [y1,y2,z1,z2,uZ hC y3 y4,uZ hC z3 z4]
theorem r8 (hC:Cut l l' K K' s e d) (hW:Wf l K U T) (h1:s≤i) (h2:i < e) (hU:UR l l' U U' T T' s e d i):b8 l' K' U' T' (i+d)=b8 l K U T i:=by
 unfold b8 k0;rw [oZ hC h1 h2];refine tZ fun h=>?_
 have hn:0 < (K i).length:=by
  rcases Bool.or_eq_true _ _ ▸ h with h|h
  ·exact sZ hW (rZ h) (by decide)
  ·exact sZ hW (rZ h) (by decide)
 obtain⟨y,y1,y2,y3,y4⟩:=DZ hC h1 h2 hn;rcases hU with ⟨j,j1,j2,u1,u2,u3⟩|⟨j,j',u1,u2,k1,k2⟩
 ·rw [u1,u2,u3];simp only [];rw [oZ hC j1 j2,y1,y2,oZ hC y3 y4,hC.kid j j1 j2,← List.map_take,zZ (p:=qS l K) (fun k hk=>by
    have:=hC.inn j k j1 j2 (List.mem_of_mem_take hk);exact fQ0 hC hW this.1 this.2)]
 ·rw [u1,u2];simp only [];rw [k1,k2];rfl
theorem r9 (hC:Cut l l' K K' s e d) (hW:Wf l K U T) (he:e≤l.length) (he':e+d≤l'.length) (h1:s≤i) (h2:i < e):b9 l' K' (i+d)=b9 l K i:=by
 unfold b9 k0 k1;rw [oZ hC h1 h2];refine tZ fun h=>?_
 obtain⟨y,y1,y2,y3,y4⟩:=qZ hC hW (n:=0) h1 h2 (rZ h) (by decide);rw [y1,y2,oZ hC y3 y4,wZ hC y3 y4];cases ha:(kd l y==some 0||kd l y==some 51) with
 | true=>rfl
 | false =>
  simp only [cond_false];cases hb:kd l y==some 50 with
  | true =>
   simp only [cond_true];obtain⟨z,z1,z2,z3,z4⟩:=qZ hC hW (n:=0) y3 y4 (rZ hb) (by decide);rw [z1,z2,GZ hC hW he he' z3 z4]
  | false =>
   simp only [cond_false];cases hc:kd l y==some 53 with
   | false=>rfl
   | true =>
    simp only [cond_true];obtain⟨z,z1,z2,z3,z4⟩:=qZ hC hW (n:=0) y3 y4 (rZ hc) (by decide);obtain⟨t,t1,t2,t3,t4⟩:=qZ hC hW (n:=1) y3 y4 (rZ hc) (by decide);rw [z1,z2,t1,t2,uZ hC z3 z4,uZ hC t3 t4];refine xQ0 fun _=>xQ0 fun _=>xQ0 fun hl=>?_
    have hl1:(K t).length=1:=by simpa using hl
    obtain⟨v,v1,v2,v3,v4⟩:=DZ hC t3 t4 (n:=0) (by omega);rw [v1,v2,GZ hC hW he he' v3 v4]
theorem r10 (hC:Cut l l' K K' s e d) (hW:Wf l K U T) (h1:s≤i) (h2:i < e):b10 l' K' (i+d)=b10 l K i:=by
 unfold b10 k0 k2;rw [oZ hC h1 h2];refine tZ fun h=>?_
 obtain⟨y,y1,y2,y3,y4⟩:=qZ hC hW (n:=0) h1 h2 (rZ h) (by decide);obtain⟨z,z1,z2,z3,z4⟩:=qZ hC hW (n:=2) h1 h2 (rZ h) (by decide);rw [y1,y2,z1,z2,uZ hC y3 y4,oZ hC y3 y4,oZ hC z3 z4]
theorem r11 (hC:Cut l l' K K' s e d) (hW:Wf l K U T) (he:e≤l.length) (he':e+d≤l'.length) (h1:s≤i) (h2:i < e):b11 l' K' (i+d)=b11 l K i:=by
 unfold b11 k0;rw [oZ hC h1 h2];refine tZ fun h=>?_
 obtain⟨y,y1,y2,y3,y4⟩:=qZ hC hW (n:=0) h1 h2 (rZ h) (by decide);obtain⟨a1,a2,a3⟩:=RZ hC hW he he' y3 y4;rw [y1,y2,a1,oZ hC a2 a3,GZ hC hW he he' y3 y4]
theorem r12 (hC:Cut l l' K K' s e d) (hW:Wf l K U T) (h1:s≤i) (h2:i < e):b12 l' K' (i+d)=b12 l K i:=by
 unfold b12 k0;rw [oZ hC h1 h2,wZ hC h1 h2];refine tZ fun h=>?_
 obtain⟨y,y1,y2,y3,y4⟩:=qZ hC hW (n:=0) h1 h2 (rZ h) (by decide);rw [y1,y2,uZ hC y3 y4,QZ hC y3 y4]
theorem r13 (hC:Cut l l' K K' s e d) (hW:Wf l K U T) (h1:s≤i) (h2:i < e):b13 l' K' (i+d)=b13 l K i:=by
 unfold b13 OP;rw [oZ hC h1 h2,uZ hC h1 h2];refine tZ fun h=>?_
 have hn:0 < (K i).length:=by
  rcases Bool.or_eq_true _ _ ▸ h with h|h
  ·exact sZ hW (rZ h) (by decide)
  ·rcases Bool.or_eq_true _ _ ▸ h with h|h
   ·exact sZ hW (rZ h) (by decide)
   ·exact sZ hW (rZ h) (by decide)
 obtain⟨y,y1,y2,y3,y4⟩:=DZ hC h1 h2 (n:=(K i).length - 1) (by omega);rw [y1,y2,oZ hC y3 y4,wZ hC y3 y4]
theorem r14 (hC:Cut l l' K K' s e d) (hW:Wf l K U T) (h1:s≤i) (h2:i < e) (hU:UR l l' U U' T T' s e d i):b14 l' K' U' T' (i+d)=b14 l K U T i:=by
 unfold b14 k2;rw [oZ hC h1 h2];refine tZ fun h=>?_
 obtain⟨z,z1,z2,z3,z4⟩:=qZ hC hW (n:=2) h1 h2 (rZ h) (by decide);rcases hU with ⟨j,j1,j2,u1,u2,u3⟩|⟨j,j',u1,u2,k1,k2⟩
 ·rw [u1,u2,u3];simp only [];rw [oZ hC j1 j2,wZ hC j1 j2,z1,z2,oZ hC z3 z4]
 ·rw [u1,u2];simp only [];rw [k1,k2];rfl
theorem r15 (hC:Cut l l' K K' s e d) (hW:Wf l K U T) (h1:s≤i) (h2:i < e):b15 l' K' (i+d)=b15 l K i:=by
 unfold b15 k0 k1;rw [oZ hC h1 h2];have ha:(kd l i==some 9&&kI l' K' ((K' (i+d)).getD 1 0))=(kd l i==some 9&&kI l K ((K i).getD 1 0)):=tZ fun h=>by
  obtain⟨y,y1,y2,y3,y4⟩:=qZ hC hW (n:=1) h1 h2 (rZ h) (by decide);rw [y1,y2,LZ hC y3 y4]
 have hb:(kd l i==some 8&&kI l' K' ((K' (i+d)).getD 0 0))=(kd l i==some 8&&kI l K ((K i).getD 0 0)):=tZ fun h=>by
  obtain⟨y,y1,y2,y3,y4⟩:=qZ hC hW (n:=0) h1 h2 (rZ h) (by decide);rw [y1,y2,LZ hC y3 y4]
 rw [ha,hb]
end
theorem nQ0 {l l':List Pt}{s e d i:Nat} (hC:Cut l l' (Kf l) (Kf l') s e d) (hW:Wf l (Kf l) (Uf l) (Tf l)) (he:e≤l.length) (he':e+d≤l'.length) (h1:s≤i) (h2:i < e) (hU:UR l l' (Uf l) (Uf l') (Tf l) (Tf l') s e d i) :
  ∀ r,LP l' (i+d) r=LP l i r
 | 0=>r1 hC h1 h2 hU
 | 1=>by show b2 l' (i+d)=b2 l i;unfold b2;rw [oZ hC h1 h2]
 | 2=>r3 hC hW h1 h2 hU
 | 3=>r4 hC h1 h2 hU
 | 4=>r5 hC hW h1 h2
 | 5=>r6 hC hW h1 h2
 | 6=>r7 hC hW h1 h2
 | 7=>r8 hC hW h1 h2 hU
 | 8=>r9 hC hW he he' h1 h2
 | 9=>r10 hC hW h1 h2
 | 10=>r11 hC hW he he' h1 h2
 | 11=>r12 hC hW h1 h2
 | 12=>r13 hC hW h1 h2
 | 13=>r14 hC hW h1 h2 hU
 | 14=>r15 hC hW h1 h2
 | _+15=>rfl
theorem kQ0 {l l':List Pt}{i d:Nat} (h:∀ r,LP l' (i+d) r=LP l i r) (r:Nat):iB l' (i+d) r=(iB l i r).map fun x=>(x.1,x.2+d):=by
 unfold iB;rw [List.map_map,show LP l' (i+d)=LP l i from funext h]
 rfl
end Shp
namespace Shp
open Grd (Pt Fo)
def flR (l:List Pt) (a n:Nat):List (Nat × Nat):=(List.range' a n).flatMap fun j=>iB l j 15
def sh (d:Nat) (x:Nat × Nat):Nat × Nat:=(x.1,x.2+d)
theorem cQ0 (l:List Pt) (n:Nat):AA l n=flR l 0 n:=by unfold AA flR;rw [List.range_eq_range']
theorem AZ (l:List Pt) (a n m:Nat):flR l a (n+m)=flR l a n++flR l (a+n) m:=by
 unfold flR;rw [← List.flatMap_append,← List.range'_append_1]
theorem aQ0 (l:List Pt) (a:Nat):flR l a 1=iB l a 15:=by simp [flR]
theorem yQ0 {l:List Pt}{i r:Nat}{x:Nat × Nat} (h:x∈iB l i r):x.2=i:=by
 unfold iB at h;obtain⟨k,hk,rfl⟩:=List.mem_map.1 h
 rfl
theorem EZ {l:List Pt}{a n:Nat}{x:Nat × Nat} (h:x∈flR l a n):a≤x.2∧x.2 < a+n:=by
 unfold flR at h;obtain⟨i,hi,hx⟩:=List.mem_flatMap.1 h;have h1:=List.mem_range'_1.1 hi;have h2:=yQ0 hx;omega
theorem dQ0 {l l':List Pt}{d:Nat}:∀ (n a:Nat),(∀ i,a≤i→i < a+n→∀ r,LP l' (i+d) r=LP l i r)→flR l' (a+d) n=(flR l a n).map (sh d)
 | 0,_,_=>rfl
 | n+1,a,h=>by
  rw [show n+1=1+n by omega,AZ,AZ,List.map_append,aQ0,aQ0,kQ0 (h a (by omega) (by omega)),show a+d+1=a+1+d by omega,dQ0 n (a+1) (fun i h1 h2=>h i (by omega) (by omega))]
  rfl
end Shp
namespace Shp
open Grd (Pt Fo)
theorem DQ0 {l:List Pt}{i:Nat} (hk:kd l i=some 13):iB l i 15=[]:=by
 have h:∀ r,LP l i r=false:=by
  intro r;rcases r with _|_|_|_|_|_|_|_|_|_|_|_|_|_|_|r
  all_goals simp only [LP,b1,b2,lI,b4,b5,b6,LK,b8,b9,b10,b11,b12,b13,b14,b15,hk]
  all_goals rfl
 unfold iB;rw [show LP l i=fun _=>false from funext h]
 rfl
theorem SQ0 {a b:List Pt}{na nb:Int} (ha:fF (⟨13,na,[]⟩::a)=true) (hb:fF (⟨13,nb,[]⟩::b)=true) (hl:a.length+b.length≤999999999) (hwa:∀ p∈a,p.w.length≤1048576) (hwb:∀ p∈b,p.w.length≤1048576) :
  fF (⟨13,na+nb,[]⟩::(a++b))=true∧AA (⟨13,na+nb,[]⟩::(a++b)) (a.length+b.length+1)=AA (⟨13,na,[]⟩::a) (a.length+1)++(AA (⟨13,nb,[]⟩::b) (b.length+1)).map (sh a.length):=by
 have ha0:=ha;have hb0:=hb;unfold fF at ha hb;rw [Bool.and_eq_true,List.all_cons,Bool.and_eq_true] at ha hb;obtain⟨qa,ka,ea,ca,ga⟩:=Grd.VP _ ha.1;obtain⟨qb,kb,eb,cb,gb⟩:=Grd.VP _ hb.1;obtain⟨rfl,rfl⟩:=List.cons.inj ea;obtain⟨rfl,rfl⟩:=List.cons.inj eb;have hza:=Grd.Fo.flat_len ka;have hzb:=Grd.Fo.flat_len kb;have hcc:((app ka kb).count:Int)=(⟨13,na+nb,[]⟩:Pt).n:=by
  have h1:(ka.count:Int)=na:=ca;have h2:(kb.count:Int)=nb:=cb
  show _=na+nb
  rw [hQ0];omega
 have hgg:=qQ0 ka kb ga gb;have hch:fF (⟨13,na+nb,[]⟩::(ka.flat++kb.flat))=true:=by
  have hw:=(bQ0 (q:=⟨13,na+nb,[]⟩) hcc hgg).1;rw [lQ0] at hw;unfold fF;rw [hw,Bool.true_and,List.all_cons,List.all_append,ha.2.2,hb.2.2];have h1:(ka.count:Int)=na:=ca;have h2:(kb.count:Int)=nb:=cb;have h3:=ha.2.1;unfold AE at h3 ⊢;simp only [] at h3 ⊢;rw [show gD ((13:UInt8).toNat:Int)=(0,true) from rfl] at h3 ⊢;simp only [Bool.and_eq_true] at h3;rw [h3.2];simp;omega
 refine⟨hch,?_⟩;have hWa:=PY ha0 (by simp only [List.length_cons];omega) (fun p hp=>by
  rcases List.mem_cons.1 hp with rfl|hp
  ·exact Nat.zero_le _
  ·exact hwa p hp)
 have hWb:=PY hb0 (by simp only [List.length_cons];omega) (fun p hp=>by
  rcases List.mem_cons.1 hp with rfl|hp
  ·exact Nat.zero_le _
  ·exact hwb p hp)
 have hWc:=PY hch (by simp only [List.length_cons,List.length_append];omega) (fun p hp=>by
  rcases List.mem_cons.1 hp with rfl|hp
  ·exact Nat.zero_le _
  ·rcases List.mem_append.1 hp with hp|hp
   ·exact hwa p hp
   ·exact hwb p hp)
 have hKc:∀ x,x < 1+ka.size+kb.size→Kf (⟨13,na+nb,[]⟩::(ka.flat++kb.flat)) x=kF (.cons ⟨13,na+nb,[]⟩ (app ka kb) .nil) 0 x:=fun x hx=>vQ0 (by rw [lQ0]) hcc hgg x (by simp only [List.length_cons,List.length_append];omega)
 have hKa:∀ x,x < 1+ka.size→Kf (⟨13,na,[]⟩::ka.flat) x=kF (.cons ⟨13,na,[]⟩ ka .nil) 0 x:=fun x hx=>vQ0 rfl ca ga x (by simp only [List.length_cons];omega)
 have hKb:∀ x,x < 1+kb.size→Kf (⟨13,nb,[]⟩::kb.flat) x=kF (.cons ⟨13,nb,[]⟩ kb .nil) 0 x:=fun x hx=>vQ0 rfl cb gb x (by simp only [List.length_cons];omega)
 have hka:∀ x,1≤x→x < 1+ka.size→Kf (⟨13,na+nb,[]⟩::(ka.flat++kb.flat)) x=Kf (⟨13,na,[]⟩::ka.flat) x:=fun x h1 h2=>by
  rw [hKc x (by omega),hKa x h2];simp only [kF];rw [if_neg (by omega),if_pos (by rw [rQ0];omega),if_neg (by omega),if_pos (by omega),tQ0 ka kb _ _ (by omega) (by omega)]
 have hkb:∀ x,1≤x→x < 1+kb.size→Kf (⟨13,na+nb,[]⟩::(ka.flat++kb.flat)) (x+ka.size)=(Kf (⟨13,nb,[]⟩::kb.flat) x).map (·+ka.size):=fun x h1 h2=>by
  rw [hKc _ (by omega),hKb x h2];simp only [kF];rw [if_neg (by omega),if_pos (by rw [rQ0];omega),if_neg (by omega),if_pos (by omega),uQ0 ka kb _ _ (by omega),MZ]
 have hCa:Cut (⟨13,na,[]⟩::ka.flat) (⟨13,na+nb,[]⟩::(ka.flat++kb.flat)) (Kf (⟨13,na,[]⟩::ka.flat)) (Kf (⟨13,na+nb,[]⟩::(ka.flat++kb.flat))) 1 (1+ka.size) 0:=by
  refine⟨fun x h1 h2=>?_,fun x h1 h2=>?_,fun x y h1 h2 hy=>?_⟩
  ·obtain⟨m,rfl⟩:∃ m,x=m+1:=⟨x - 1,by omega⟩;rw [Nat.add_zero,List.getElem?_cons_succ,List.getElem?_cons_succ,List.getElem?_append_left (by omega)]
  ·rw [Nat.add_zero,hka x h1 h2];simp
  ·have:=hWa.kin x y hy;simp only [List.length_cons] at this;omega
 have hCb:Cut (⟨13,nb,[]⟩::kb.flat) (⟨13,na+nb,[]⟩::(ka.flat++kb.flat)) (Kf (⟨13,nb,[]⟩::kb.flat)) (Kf (⟨13,na+nb,[]⟩::(ka.flat++kb.flat))) 1 (1+kb.size) ka.size:=by
  refine⟨fun x h1 h2=>?_,fun x h1 h2=>hkb x h1 h2,fun x y h1 h2 hy=>?_⟩
  ·obtain⟨m,rfl⟩:∃ m,x=m+1:=⟨x - 1,by omega⟩;rw [show m+1+ka.size=m+ka.size+1 by omega,List.getElem?_cons_succ,List.getElem?_cons_succ,List.getElem?_append_right (by omega),show m+ka.size - ka.flat.length=m by omega]
  ·have:=hWb.kin x y hy;simp only [List.length_cons] at this;omega
 have hroot:Kf (⟨13,na+nb,[]⟩::(ka.flat++kb.flat)) 0=Kf (⟨13,na,[]⟩::ka.flat) 0++(Kf (⟨13,nb,[]⟩::kb.flat) 0).map (·+ka.size):=by
  rw [hKc 0 (by omega),hKa 0 (by omega),hKb 0 (by omega)];simp only [kF,↓reduceIte];rw [iQ0,BZ ka.size kb (0+1)]
 have hra:∀ x,1≤x→x < 1+ka.size→∀ r,LP (⟨13,na+nb,[]⟩::(ka.flat++kb.flat)) (x+0) r=LP (⟨13,na,[]⟩::ka.flat) x r:=fun x h1 h2=>by
  refine nQ0 hCa hWa (by simp only [List.length_cons];omega) (by simp only [List.length_cons,List.length_append];omega) h1 h2 ?_;cases hu:Uf (⟨13,na,[]⟩::ka.flat) x with
  | none =>
   rcases hWa.top x hu with h|h
   ·omega
   ·simp only [List.length_cons] at h;omega
  | some j =>
   obtain⟨u1,u2⟩:=hWa.up x j hu;rcases Nat.eq_zero_or_pos j with hj|hj
   ·subst hj;have u4:(Kf (⟨13,na+nb,[]⟩::(ka.flat++kb.flat)) 0)[Tf (⟨13,na,[]⟩::ka.flat) x]?=some x:=by
     rw [hroot,List.getElem?_append_left (List.getElem?_eq_some_iff.1 u2).1,u2]
    exact .inr ⟨0,0,hu,(hWc.nth _ _ _ u4).1,rfl,rfl⟩
   ·have u4:(Kf (⟨13,na+nb,[]⟩::(ka.flat++kb.flat)) j)[Tf (⟨13,na,[]⟩::ka.flat) x]?=some x:=by rw [hka j hj (by omega),u2]
    obtain⟨v1,v2⟩:=hWc.nth _ _ _ u4;exact .inl ⟨j,hj,by omega,hu,v1,v2⟩
 have hrb:∀ x,1≤x→x < 1+kb.size→∀ r,LP (⟨13,na+nb,[]⟩::(ka.flat++kb.flat)) (x+ka.size) r=LP (⟨13,nb,[]⟩::kb.flat) x r:=fun x h1 h2=>by
  refine nQ0 hCb hWb (by simp only [List.length_cons];omega) (by simp only [List.length_cons,List.length_append];omega) h1 h2 ?_;cases hu:Uf (⟨13,nb,[]⟩::kb.flat) x with
  | none =>
   rcases hWb.top x hu with h|h
   ·omega
   ·simp only [List.length_cons] at h;omega
  | some j =>
   obtain⟨u1,u2⟩:=hWb.up x j hu;rcases Nat.eq_zero_or_pos j with hj|hj
   ·subst hj;have u4:(Kf (⟨13,na+nb,[]⟩::(ka.flat++kb.flat)) 0)[(Kf (⟨13,na,[]⟩::ka.flat) 0).length+Tf (⟨13,nb,[]⟩::kb.flat) x]?=some (x+ka.size):=by
     rw [hroot,List.getElem?_append_right (by omega),Nat.add_sub_cancel_left,List.getElem?_map,u2];rfl
    exact .inr ⟨0,0,hu,(hWc.nth _ _ _ u4).1,rfl,rfl⟩
   ·have u4:(Kf (⟨13,na+nb,[]⟩::(ka.flat++kb.flat)) (j+ka.size))[Tf (⟨13,nb,[]⟩::kb.flat) x]?=some (x+ka.size):=by rw [hkb j hj (by omega),List.getElem?_map,u2];rfl
    obtain⟨v1,v2⟩:=hWc.nth _ _ _ u4;exact .inl ⟨j,hj,by omega,hu,v1,v2⟩
 have hPa:=dQ0 (l:=⟨13,na,[]⟩::ka.flat) (l':=⟨13,na+nb,[]⟩::(ka.flat++kb.flat)) (d:=0) ka.size 1 (fun x h1 h2=>hra x h1 h2);have hPb:=dQ0 (l:=⟨13,nb,[]⟩::kb.flat) (l':=⟨13,na+nb,[]⟩::(ka.flat++kb.flat)) (d:=ka.size) kb.size 1 (fun x h1 h2=>hrb x h1 h2);rw [hza,hzb,cQ0,cQ0,cQ0,show ka.size+kb.size+1=1+(ka.size+kb.size) by omega,show ka.size+1=1+ka.size by omega,show kb.size+1=1+kb.size by omega];rw [AZ,AZ,AZ _ 0 1 ka.size,AZ _ 0 1 kb.size,aQ0,aQ0,aQ0,DQ0 rfl,DQ0 rfl,DQ0 rfl,List.nil_append,List.nil_append,List.nil_append,Nat.zero_add,hPb,← Nat.add_zero 1,hPa]
 congr 1
 exact List.map_id'' (fun x=>rfl) _
end Shp
namespace Shp
open Go.RowKit
open Grd (Pt)
theorem QQ0 (E:Env) (k:Nat):∀ (acc:List Tr) (n:Nat) (g:Bool) (t:Tr) (m:Nat),(kA E k).t (.stmtsMore acc) n g=.ok t m→∃ ks j,t=xC 13 ks j:=by
 induction k with
 | zero=>intro acc n g t m h;cases h
 | succ k ih =>
  intro acc n g t m h;have h:dC E (kA E k) acc n g=.ok t m:=h;generalize kA E k=S at *;unfold dC at h;split at h
  ·cases h;exact⟨_,_,rfl⟩
  ·split at h
   ·exact ih _ _ _ _ _ h
   ·cases hr:S.t .stmt n g with
    | bad j=>rw [hr] at h;cases h
    | out=>rw [hr] at h;cases h
    | ok x n1 =>
     rw [hr] at h;have h:(if E.is n1 [125]||E.ended n1 then S.t (.stmtsMore (acc++[x])) n1 g
      else (want E [59] n1).andThen fun _ n2=>S.t (.stmtsMore (acc++[x])) n2 g)=.ok t m:=h
     split at h
     ·exact ih _ _ _ _ _ h
     ·unfold want at h;split at h
      ·exact ih _ _ _ _ _ h
      ·cases h
theorem IQ0 {E:Env}{t:Tr}{m:Nat} (h:FD E 3=.ok t m):∃ ks j,t=xC 13 ks j:=by
 obtain⟨_,n,hn,hs,hg⟩:=WI h;have hs:(kA E (OC E)).t .stmts 0 false=.ok t n:=hs;obtain⟨k,hk⟩:∃ k,OC E=k+1:=⟨20*E.l.length+19,rfl⟩;rw [hk] at hs;have hs:(kA E k).t (.stmtsMore []) 0 false=.ok t n:=hs;exact QQ0 E _ _ _ _ _ _ hs
theorem FQ0 {s:List UInt8}{l:List Tk}{t:Tr} (h:tD kE 3 s=.ok l t):∃ (na:Nat) (r:List Pt3),parts ⟨s,l,[]⟩ t=⟨13,na,[]⟩::r:=by
 obtain⟨p,m,hN,hT⟩:=MO h;obtain⟨ks,j,rfl⟩:=IQ0 hT;cases ks with
 | nil=>exact⟨0,[],rfl⟩
 | cons k r=>exact⟨_,_,rfl⟩
end Shp
namespace Shp
open Go.RowKit
open Grd (Pt tB)
variable {w:World}
def zQ0 (A:List Pt3) (w:World) (e:Ending) (w':World):Prop:=∃ g pc,e=.returned (.tuple #[.slice (some ⟨g,0,none⟩) A.length pc,.agg #[.int .i64 0,.int .i64 0]])∧w'.ownsRow w.heap.size 39 3 (.slice (some ⟨g,0,none⟩) A.length pc) A.length (CF A)∧Below w.heap.size w w'
theorem BQ0 (s:List UInt8):(∃ er ea:Nat,er≠0∧∀ w,NC w→Calls Tryz.prog 9 #[.int .u8 3,.string ⟨s.toArray⟩] w (fun e w'=>∃ pa pn pc,e=.returned (.tuple #[.slice pa pn pc,.agg #[.int .i64 (er:Int),.int .i64 (ea:Int)]])∧Below w.heap.size w w')) ∨
  ∃ (na:Nat) (r:List Pt3),fF (⟨13,na,[]⟩::r.map ptG)=true∧r.length≤40000000∧(∀ p∈r.map ptG,p.w.length≤1048576)∧∀ w,NC w→Calls Tryz.prog 9 #[.int .u8 3,.string ⟨s.toArray⟩] w (zQ0 (⟨13,na,[]⟩::r) w):=by
 have h0:=fun w h=>nV 3 s w h
 cases hr:tD kE 3 s with
 | bad e a =>
  rw [hr] at h0;refine .inl ⟨e,a,QP gM hr,fun w h=>(h0 w h).mono ?_⟩;rintro e w' ⟨pa,pn,pc,rfl,-,hb⟩;exact⟨pa,pn,pc,rfl,hb⟩
 | ok l t =>
  rw [hr] at h0;obtain⟨na,r,hp⟩:=FQ0 hr;obtain⟨c1,_,c3⟩:=XU hr;have c2:=(GS hr).cnt;rw [← nI ⟨s,l,[]⟩ t,hp] at c2;unfold oE at c1 c3;rw [hp] at c1 c3;refine .inr ⟨na,r,c1,by simp at c2;omega,fun p h=>c3 p (.tail _ h),fun w h=>(h0 w h).mono ?_⟩;rintro e w' ⟨pa,pn,pc,rfl,hq,hb⟩;have hq:w'.ownsRow w.heap.size 39 3 (.slice pa pn pc) (parts ⟨s,l,[]⟩ t).length (CF (parts ⟨s,l,[]⟩ t)):=hq;rw [hp] at hq;obtain⟨g,cap,e2,_,_⟩:=hq.form (by simp);cases e2;exact⟨g,pc,rfl,hq,hb⟩
theorem HQ0 (s t:List UInt8) (hT:NC w) (er ea:Nat) (he:er≠0) (hS:∀ w,NC w→Calls Tryz.prog 9 #[.int .u8 3,.string ⟨s.toArray⟩] w (fun e w'=>∃ pa pn pc,e=.returned (.tuple #[.slice pa pn pc,.agg #[.int .i64 (er:Int),.int .i64 (ea:Int)]])∧Below w.heap.size w w')) :
  Calls Tryz.prog 5 #[.string ⟨s.toArray⟩,.string ⟨t.toArray⟩] w fun e w'=>e=.returned (.bool true)∧Below w.heap.size w w':=by
 have HT:=hid hT;have HX:=hid (fun (w':World) (hb:Below w.heap.size w w')=>tJ (hT.below hb));have HS1:=hid hS;have HS2:=hid (fun w h=>nV 3 t w h);clear hT hS;have k1:(er==0)=false:=by simpa using he
 have k2:((er:Int)==0)=false:=by simp;omega
 have k3:(er != 0)=true:=by simpa using he
 have k4:((er:Int) != 0)=true:=by simp;omega
 clear he;go_enter Tryz.func5,Tryz.ntmps5;go_wp2_with fail;refine (HS1.out _ HT.out).mono ?_;rintro e w1 ⟨pa,pn,pc,rfl,hb1⟩;go_upto_region 2 with fail;have A1:=heap_alloc_new w1 (Obj.cells #[.int .i64 (er:Int),.int .i64 (ea:Int)] 25);have bA:=(Below.refl w1.heap.size w1).alloc (Nat.le_refl _) (Obj.cells #[.int .i64 (er:Int),.int .i64 (ea:Int)] 25);have sA:w1.heap.size < (w1.alloc (Obj.cells #[.int .i64 (er:Int),.int .i64 (ea:Int)] 25)).heap.size:=by simp
 have HBA:=hid (dA hb1 bA);clear hb1 bA;generalize w1.alloc (Obj.cells #[.int .i64 (er:Int),.int .i64 (ea:Int)] 25)=wA at *;go_wp2_with fail;refine (HS2.out _ (HT.out.below HBA.out)).mono ?_;rintro e w2 ⟨qa,qn,qc,rfl,-,hb2⟩;have A1:=(hb2.block _ sA).trans A1;have sA:=Nat.lt_of_lt_of_le sA hb2.size;have HB2:=hid (dA HBA.out hb2);clear hb2 HBA;generalize ((US (tD kE 3 t)).1)=e2 at *;generalize ((US (tD kE 3 t)).2)=a2 at *;go_upto_region 3 with fail;have bB:=(Below.refl w2.heap.size w2).alloc (Nat.le_refl _) (Obj.cells #[.int .i64 (e2:Int),.int .i64 (a2:Int)] 25);have A1:=(bB.block _ sA).trans A1;have sA:=Nat.lt_of_lt_of_le sA bB.size;have HB3:=hid (dA HB2.out bB);clear bB HB2;generalize w2.alloc (Obj.cells #[.int .i64 (e2:Int),.int .i64 (a2:Int)] 25)=wB at *;go_wp2_with fail;refine (HX.out _ HB3.out).mono ?_;rintro e w3 ⟨rfl,hb3⟩;have A1:=(hb3.block _ sA).trans A1;obtain⟨f1,f2,_,_⟩:=YB A1;have HB4:=hid (dA HB3.out hb3);clear hb3 HB3 A1;go_wp2_with fail;refine (HX.out _ HB4.out).mono ?_;rintro e w4 ⟨rfl,hb4⟩;have hb:=dA HB4.out hb4;go_wp2_with fail;go_ret;exact⟨rfl,hb⟩
theorem GQ0 (s t:List UInt8) (hT:NC w) (A:List Pt3) (hS:∀ w,NC w→Calls Tryz.prog 9 #[.int .u8 3,.string ⟨s.toArray⟩] w (zQ0 A w)) (er ea:Nat) (he:er≠0)
  (hS2:∀ w,NC w→Calls Tryz.prog 9 #[.int .u8 3,.string ⟨t.toArray⟩] w (fun e w'=>∃ pa pn pc,e=.returned (.tuple #[.slice pa pn pc,.agg #[.int .i64 (er:Int),.int .i64 (ea:Int)]])∧Below w.heap.size w w')) :
  Calls Tryz.prog 5 #[.string ⟨s.toArray⟩,.string ⟨t.toArray⟩] w fun e w'=>e=.returned (.bool true)∧Below w.heap.size w w':=by
 have HT:=hid hT;have HX:=hid (fun (w':World) (hb:Below w.heap.size w w')=>tJ (hT.below hb));have HS1:=hid hS;have HS2:=hid hS2;clear hT hS hS2;have k1:(er==0)=false:=by simpa using he
 have k2:((er:Int)==0)=false:=by simp;omega
 have k3:(er != 0)=true:=by simpa using he
 have k4:((er:Int) != 0)=true:=by simp;omega
 clear he;go_enter Tryz.func5,Tryz.ntmps5;go_wp2_with fail;refine (HS1.out _ HT.out).mono ?_;rintro e w1 ⟨ga,pc,rfl,-,hb1⟩;generalize A.length=n1 at *;go_upto_region 2 with fail;have A1:=heap_alloc_new w1 (Obj.cells #[.int .i64 0,.int .i64 0] 25);have bA:=(Below.refl w1.heap.size w1).alloc (Nat.le_refl _) (Obj.cells #[.int .i64 0,.int .i64 0] 25);have sA:w1.heap.size < (w1.alloc (Obj.cells #[.int .i64 0,.int .i64 0] 25)).heap.size:=by simp
 have HBA:=hid (dA hb1 bA);clear hb1 bA;generalize w1.alloc (Obj.cells #[.int .i64 0,.int .i64 0] 25)=wA at *;go_wp2_with fail;refine (HS2.out _ (HT.out.below HBA.out)).mono ?_;rintro e w2 ⟨qa,qn,qc,rfl,hb2⟩;have A1:=(hb2.block _ sA).trans A1;have sA:=Nat.lt_of_lt_of_le sA hb2.size;have HB2:=hid (dA HBA.out hb2);clear hb2 HBA;go_upto_region 3 with fail;have B1:=heap_alloc_new w2 (Obj.cells #[.int .i64 (er:Int),.int .i64 (ea:Int)] 25);have bB:=(Below.refl w2.heap.size w2).alloc (Nat.le_refl _) (Obj.cells #[.int .i64 (er:Int),.int .i64 (ea:Int)] 25);have sB:w2.heap.size < (w2.alloc (Obj.cells #[.int .i64 (er:Int),.int .i64 (ea:Int)] 25)).heap.size:=by simp
 have A1:=(bB.block _ sA).trans A1;have sA:=Nat.lt_of_lt_of_le sA bB.size;have HB3:=hid (dA HB2.out bB);clear bB HB2;generalize w2.alloc (Obj.cells #[.int .i64 (er:Int),.int .i64 (ea:Int)] 25)=wB at *;go_wp2_with fail;refine (HX.out _ HB3.out).mono ?_;rintro e w3 ⟨rfl,hb3⟩;have A1:=(hb3.block _ sA).trans A1;have B1:=(hb3.block _ sB).trans B1;obtain⟨f1,f2,_,_⟩:=YB A1;obtain⟨f3,f4,_,_⟩:=YB B1;have HB4:=hid (dA HB3.out hb3);clear hb3 HB3 A1 B1;go_wp2_with fail;refine (HX.out _ HB4.out).mono ?_;rintro e w4 ⟨rfl,hb4⟩;have hb:=dA HB4.out hb4;go_wp2_with fail;go_ret;exact⟨rfl,hb⟩
theorem RQ0 (s t:List UInt8) (hT:NC w) (A:List Pt3) (hS:∀ w,NC w→Calls Tryz.prog 9 #[.int .u8 3,.string ⟨s.toArray⟩] w (zQ0 A w)) (B:List Pt3) (hS2:∀ w,NC w→Calls Tryz.prog 9 #[.int .u8 3,.string ⟨t.toArray⟩] w (zQ0 B w)) (hg:3000 < s.length+t.length) (hm:s.length+t.length≤1125899906842624) :
  Calls Tryz.prog 5 #[.string ⟨s.toArray⟩,.string ⟨t.toArray⟩] w fun e w'=>e=.returned (.bool true)∧Below w.heap.size w w':=by
 have HT:=hid hT;have HX:=hid (fun (w':World) (hb:Below w.heap.size w w')=>tJ (hT.below hb));have HS1:=hid hS;have HS2:=hid hS2;clear hT hS hS2;have d1:decide ((3000:Int) < (s.length:Int)+(t.length:Int))=true:=by simp;omega
 have d2:decide (3000 < s.length+t.length)=true:=by simp;omega
 have z1:IntKind.i64.wrap ((s.length:Int)+(t.length:Int))=(s.length:Int)+(t.length:Int):=by simp [IntKind.wrap,IntKind.bits,IntKind.signed];omega
 clear hg;go_enter Tryz.func5,Tryz.ntmps5;go_wp2_with fail;refine (HS1.out _ HT.out).mono ?_;rintro e w1 ⟨ga,pc,rfl,-,hb1⟩;generalize A.length=n1 at *;go_upto_region 2 with fail;have A1:=heap_alloc_new w1 (Obj.cells #[.int .i64 0,.int .i64 0] 25);have bA:=(Below.refl w1.heap.size w1).alloc (Nat.le_refl _) (Obj.cells #[.int .i64 0,.int .i64 0] 25);have sA:w1.heap.size < (w1.alloc (Obj.cells #[.int .i64 0,.int .i64 0] 25)).heap.size:=by simp
 have HBA:=hid (dA hb1 bA);clear hb1 bA;generalize w1.alloc (Obj.cells #[.int .i64 0,.int .i64 0] 25)=wA at *;go_wp2_with fail;refine (HS2.out _ (HT.out.below HBA.out)).mono ?_;rintro e w2 ⟨gb,qc,rfl,-,hb2⟩;generalize B.length=n2 at *;have A1:=(hb2.block _ sA).trans A1;have sA:=Nat.lt_of_lt_of_le sA hb2.size;have HB2:=hid (dA HBA.out hb2);clear hb2 HBA;go_upto_region 3 with fail;have B1:=heap_alloc_new w2 (Obj.cells #[.int .i64 0,.int .i64 0] 25);have bB:=(Below.refl w2.heap.size w2).alloc (Nat.le_refl _) (Obj.cells #[.int .i64 0,.int .i64 0] 25);have sB:w2.heap.size < (w2.alloc (Obj.cells #[.int .i64 0,.int .i64 0] 25)).heap.size:=by simp
 have A1:=(bB.block _ sA).trans A1;have sA:=Nat.lt_of_lt_of_le sA bB.size;have HB3:=hid (dA HB2.out bB);clear bB HB2;generalize w2.alloc (Obj.cells #[.int .i64 0,.int .i64 0] 25)=wB at *;go_wp2_with fail;refine (HX.out _ HB3.out).mono ?_;rintro e w3 ⟨rfl,hb3⟩;have A1:=(hb3.block _ sA).trans A1;have B1:=(hb3.block _ sB).trans B1;obtain⟨f1,f2,_,_⟩:=YB A1;obtain⟨f3,f4,_,_⟩:=YB B1;have HB4:=hid (dA HB3.out hb3);clear hb3 HB3 A1 B1;go_wp2_with fail;refine (HX.out _ HB4.out).mono ?_;rintro e w4 ⟨rfl,hb4⟩;have hb:=dA HB4.out hb4;go_wp2_with fail;go_ret;exact⟨rfl,hb⟩
end Shp
namespace Shp
open Go.RowKit
open Grd (Pt tB)
variable {w:World}
theorem KQ0 {L:List Pt}{F:List (Nat × Nat)}{n:Nat} (hc:fF L=true) (hl:L.length≤100000000) (hw:∀ p∈L,p.w.length≤1048576) (hn:L.length=n) (hF:AA L n=F) :
  ∀ (g cap:Nat) (w:World),NC w→tB w (some ⟨g,0,none⟩) L→Calls Tryz.prog 14 #[.slice (some ⟨g,0,none⟩) n cap] w fun e w'=>∃ a c,e=.returned (.tuple #[.slice a F.length c,.int .i64 0])∧sV w' a F∧Below w.heap.size w w':=by
 subst hn;subst hF;intro g cap w hT hp;refine (kP _ cap hp hl hw hT hc).mono ?_;rintro e w' ⟨vo,rfl,hown,hb⟩;obtain⟨a,c,rfl⟩:=Grd.ID hown;exact⟨a,c,rfl,QQ hown,hb⟩
theorem sV.keep {a:Option Addr}{F:List (Nat × Nat)}{w':World} (h:sV w a F) (hb:Below w.heap.size w w'):sV w' a F:=by
 rcases h with h|⟨b,off,e,hlt,hc⟩
 ·exact .inl h
 ·exact .inr ⟨b,off,e,Nat.lt_of_lt_of_le hlt hb.size,fun j p hj=>⟨zE hb hlt (hc j p hj).1,zE hb hlt (hc j p hj).2⟩⟩
theorem CQ0 {P:Program}{ops:Array Oper}{o:Oper}{a:Act}{K:Act→World→Prop}{Q:Exit→Act→World→Prop}{E:Prop} (hgd:o.guard=none) (s x:Operand) (t:TypeId)
  (ho:o.op=.call { callee:=.builtin .append,args:=#[s,x],argTypes:=#[t,t] })
  (base:Nat) (e:TypeId) (i:TypeInfo) (z:Value) (size bytes:Nat) (ht:P.underlying t=some (.slice e)) (hi:P.info? e=some i) (hz:i.zero=some z)
  (hsize:i.size=size) (hby:i.bytes=bytes) (hzs:z.cells.size=size) (hsz:0 < size)
  (v:Value) (n:Nat) (xs:List Value) (hs:a.eval s=v) (hown:w.ownsRow base e size v n xs)
  (ad:Addr) (m c:Nat) (news:List Value) (hx:a.eval x=.slice (some ad) m c) (hl:news.length=m*size) (hnews:∀ j u,news[j]?=some u→w.cell? (ad.add j)=some u) (h1:∀ u∈news,u.oneCell'=true)
  (h63:n+m≤maxLen) (hbytes:(n+m)*bytes≤140737488355328) (hbase:base≤w.heap.size)
  (h:∀ v' w',w'.ownsRow base e size v' (n+m) (xs++news)→w.grownBy w' v.ownBlock→K (a.put o.dst v') w') :
  if Region.wanted o (yielded ops a.tmps)=true then Oper.wp P o a w K Q else E:=by
 have hw:Region.wanted o (yielded ops a.tmps)=true:=by simp [Region.wanted,hgd]
 rw [if_pos hw];obtain⟨v',w',hr,h2,h3,_,_⟩:=run_append_own_at (P:=P) w base t o.type e i z size bytes ht hi hz hsize hby hzs hsz v n xs hown ad m c news hl hnews h1 h63 hbytes hbase;unfold Oper.wp execOp;simp only [ho,resolve,invoke,builtin,Sem.run_bind,Sem.run_pure,Result.andThen_ok,List.map_toArray,List.map_cons,List.map_nil,hs,hx,hr];exact h v' w' h2 h3
theorem AQ0:∀ l:List Pt3,(CF l).length=l.length*3
 | []=>rfl
 | x::l=>by
  have e:CF (x::l)=TJ x++CF l:=rfl;rw [e,List.length_append,AQ0 l];simp [TJ];omega
theorem EQ0:∀ l:List Pt3,∀ u∈CF l,u.oneCell'=true
 | [],_,h=>by cases h
 | x::l,u,h=>by
  have e:CF (x::l)=TJ x++CF l:=rfl;rw [e] at h;rcases List.mem_append.1 h with h|h
  ·simp only [TJ,List.mem_cons,List.not_mem_nil,or_false] at h;rcases h with rfl|rfl|rfl <;> rfl
  ·exact EQ0 l u h
theorem MQ0:∀ a b:List Pt3,CF (a++b)=CF a++CF b
 | [],_=>rfl
 | x::a,b=>by
  have e:∀ l,CF (x::l)=TJ x++CF l:=fun _=>rfl
  rw [List.cons_append,e,e,MQ0 a b,List.append_assoc]
theorem LQ0 {lo n g c:Nat}{r:List Pt3}{x:Pt3} (h:w.ownsRow lo 39 3 (.slice (some ⟨g,0,none⟩) n c) n (CF (x::r))) (hn:n=r.length+1) {w':World} (hb:Below w.heap.size w w') :
  ∀ j u,(CF r)[j]?=some u→w'.cell? ((⟨g,3,none⟩:Addr).add j)=some u:=by
 intro j u hj;have hl:=AQ0 r;have hjl:=(List.getElem?_eq_some_iff.1 hj).1;have h2:=bF h hb;have h3:=h2.cellAt (j+3) (by omega);have e:CF (x::r)=TJ x++CF r:=rfl;rw [e,List.getElem?_append_right (by simp [TJ]),show j+3 - (TJ x).length=j from by simp [TJ],hj] at h3;have hadd:(⟨g,3,none⟩:Addr).add j=⟨g,j+3,none⟩:=by unfold Addr.add;split <;> simp_all <;> omega
 rw [hadd];exact h3
theorem NQ0 {lo n g c:Nat}{r:List Pt3}{x:Pt3} (h:w.ownsRow lo 39 3 (.slice (some ⟨g,0,none⟩) n c) n (CF (x::r))) (hn:n=r.length+1) :
  ∃ ad:Addr,(if c=1 then some (⟨g,0,none⟩:Addr) else some ⟨g,3,none⟩)=some ad∧∀ w',Below w.heap.size w w'→∀ j u,(CF r)[j]?=some u→w'.cell? (ad.add j)=some u:=by
 have hc:=Grd.IK h;by_cases h1:c=1
 ·rw [if_pos h1];have hr:r=[]:=List.eq_nil_of_length_eq_zero (by omega);subst hr;exact⟨_,rfl,fun w' _ j u hj=>by cases hj⟩
 ·rw [if_neg h1];exact⟨_,rfl,fun w' hb=>LQ0 h hn hb⟩
theorem JQ0 (s t:List UInt8) (hT:NC w) (na nb:Nat) (ra rb:List Pt3)
  (hca:fF (⟨13,na,[]⟩::ra.map ptG)=true) (hla:ra.length≤99999999) (hwa:∀ p∈ra.map ptG,p.w.length≤1048576)
  (hcb:fF (⟨13,nb,[]⟩::rb.map ptG)=true) (hlb:rb.length≤99999999) (hwb:∀ p∈rb.map ptG,p.w.length≤1048576) (hab:ra.length+rb.length≤99999999) (hna:na≤100000000) (hnb:nb≤100000000)
  (hS:∀ w,NC w→Calls Tryz.prog 9 #[.int .u8 3,.string ⟨s.toArray⟩] w (zQ0 (⟨13,na,[]⟩::ra) w))
  (hS2:∀ w,NC w→Calls Tryz.prog 9 #[.int .u8 3,.string ⟨t.toArray⟩] w (zQ0 (⟨13,nb,[]⟩::rb) w)) (hg:s.length+t.length≤3000) :
  Calls Tryz.prog 5 #[.string ⟨s.toArray⟩,.string ⟨t.toArray⟩] w fun e w'=>e=.returned (.bool true)∧Below w.heap.size w w':=by
 obtain⟨hcz,hfz⟩:=SQ0 hca hcb (by simp;omega) hwa hwb;rw [List.length_map,List.length_map] at hfz;have HFA:=hid (KQ0 hca (by simp;omega) (fun p hp=>by
  rcases List.mem_cons.1 hp with rfl|hp
  ·exact Nat.zero_le _
  ·exact hwa p hp) (n:=ra.length+1) (by simp) rfl)
 have HFB:=hid (KQ0 hcb (by simp;omega) (fun p hp=>by
  rcases List.mem_cons.1 hp with rfl|hp
  ·exact Nat.zero_le _
  ·exact hwb p hp) (n:=rb.length+1) (by simp) rfl)
 have HFZ:=hid (KQ0 hcz (by simp;omega) (fun p hp=>by
  rcases List.mem_cons.1 hp with rfl|hp
  ·exact Nat.zero_le _
  ·rcases List.mem_append.1 hp with hp|hp
   ·exact hwa p hp
   ·exact hwb p hp) (n:=ra.length+rb.length+1) (by simp) hfz)
 have hfa:(AA (⟨13,na,[]⟩::ra.map ptG) (ra.length+1)).length≤2000000000:=Nat.le_trans (CY _ _) (by omega);have hfb:(AA (⟨13,nb,[]⟩::rb.map ptG) (rb.length+1)).length≤2000000000:=Nat.le_trans (CY _ _) (by omega);have HMB:Hid (∀ x∈AA (⟨13,nb,[]⟩::rb.map ptG) (rb.length+1),x.2 < rb.length+1):=hid (fun x h=>(jY h).1);generalize AA (⟨13,na,[]⟩::ra.map ptG) (ra.length+1)=FA at *;generalize AA (⟨13,nb,[]⟩::rb.map ptG) (rb.length+1)=FB at *;have HT:=hid hT;have HX:=hid (fun (w':World) (hb:Below w.heap.size w w')=>tJ (hT.below hb));have HZL:Hid ((FA++FB.map (sh ra.length)).length=FA.length+FB.length):=hid (by simp);obtain⟨FZ,hFZ⟩:∃ FZ,FZ=FA++FB.map (sh ra.length):=⟨_,rfl⟩;rw [← hFZ] at HFZ HZL;have HEZ:=hid hFZ;clear hFZ;have HS1:=hid hS;have HS2:=hid hS2;have d1:decide ((3000:Int) < (s.length:Int)+(t.length:Int))=false:=by simp;omega
 have d2:decide (3000 < s.length+t.length)=false:=by simp;omega
 have z1:IntKind.i64.wrap ((s.length:Int)+(t.length:Int))=(s.length:Int)+(t.length:Int):=by simp [IntKind.wrap,IntKind.bits,IntKind.signed];omega
 clear hT hS hS2 hcz hfz hca hcb hwa hwb hg;go_enter Tryz.func5,Tryz.ntmps5;go_wp2_with fail;refine (HS1.out _ HT.out).mono ?_;rintro e w1 ⟨ga,pc,rfl,hoa,hb1⟩;obtain⟨n1,hn1⟩:∃ n,n=(⟨13,na,[]⟩::ra:List Pt3).length:=⟨_,rfl⟩;rw [← hn1] at hoa ⊢;have HN1:Hid (n1=ra.length+1):=hid hn1;have HOA:=hid hoa;clear hn1 hoa;go_upto_region 2 with fail;have A1:=heap_alloc_new w1 (Obj.cells #[.int .i64 0,.int .i64 0] 25);have bA:=(Below.refl w1.heap.size w1).alloc (Nat.le_refl _) (Obj.cells #[.int .i64 0,.int .i64 0] 25);have sA:w1.heap.size < (w1.alloc (Obj.cells #[.int .i64 0,.int .i64 0] 25)).heap.size:=by simp
 have HB1A:=hid bA;have HBA:=hid (dA hb1 bA);clear hb1 bA;generalize w1.alloc (Obj.cells #[.int .i64 0,.int .i64 0] 25)=wA at *;go_wp2_with fail;refine (HS2.out _ (HT.out.below HBA.out)).mono ?_;rintro e w2 ⟨gb,qc,rfl,hob,hb2⟩;obtain⟨n2,hn2⟩:∃ n,n=(⟨13,nb,[]⟩::rb:List Pt3).length:=⟨_,rfl⟩;rw [← hn2] at hob ⊢;have HN2:Hid (n2=rb.length+1):=hid hn2;have HOB:=hid hob;clear hn2 hob;have A1:=(hb2.block _ sA).trans A1;have sA:=Nat.lt_of_lt_of_le sA hb2.size;have HB12:=hid (dA HB1A.out hb2);have HB2:=hid (dA HBA.out hb2);clear hb2 HBA HB1A;go_upto_region 3 with fail;have B1:=heap_alloc_new w2 (Obj.cells #[.int .i64 0,.int .i64 0] 25);have bB:=(Below.refl w2.heap.size w2).alloc (Nat.le_refl _) (Obj.cells #[.int .i64 0,.int .i64 0] 25);have sB:w2.heap.size < (w2.alloc (Obj.cells #[.int .i64 0,.int .i64 0] 25)).heap.size:=by simp
 have A1:=(bB.block _ sA).trans A1;have sA:=Nat.lt_of_lt_of_le sA bB.size;have HB2B:=hid bB;clear bB;generalize w2.alloc (Obj.cells #[.int .i64 0,.int .i64 0] 25)=wB at *;go_wp2_with fail;refine (HX.out _ (dA HB2.out HB2B.out)).mono ?_;rintro e w3 ⟨rfl,hb3⟩;have A1:=(hb3.block _ sA).trans A1;have B1:=(hb3.block _ sB).trans B1;obtain⟨f1,f2,_,_⟩:=YB A1;obtain⟨f3,f4,_,_⟩:=YB B1;have HB23:=hid (dA HB2B.out hb3);clear hb3 HB2B A1 B1 sA sB;have e1:((n1:Int)==0)=false:=by have:=HN1.out;simp;omega
 have e1':(n1==0)=false:=by have:=HN1.out;simp;omega
 have e2:((n2:Int)==0)=false:=by have:=HN2.out;simp;omega
 have e2':(n2==0)=false:=by have:=HN2.out;simp;omega
 go_upto_region 7 with fail;obtain⟨iN,hiN,hz0,hz1,hz2⟩:=info_parts Tryz.infoPt;have HB13:=hid (dA HB12.out HB23.out);have HB3:=hid (dA HB2.out HB23.out);obtain⟨ada,hada,hna'⟩:=NQ0 HOA.out HN1.out;obtain⟨adb,hadb,hnb'⟩:=NQ0 HOB.out HN2.out;have HNA:Hid (∀ w',Below w3.heap.size w3 w'→∀ j u,(CF ra)[j]?=some u→w'.cell? (ada.add j)=some u):=hid (fun w' hb=>hna' w' (dA HB13.out hb));have HNB:Hid (∀ w',Below w3.heap.size w3 w'→∀ j u,(CF rb)[j]?=some u→w'.cell? (adb.add j)=some u):=hid (fun w' hb=>hnb' w' (dA HB23.out hb));clear hna' hnb';have HS:Hid (∀ w',Below w3.heap.size w3 w'→w'.cell? ⟨ga,1,none⟩=some (.int .i64 (na:Int))∧w'.cell? ⟨gb,1,none⟩=some (.int .i64 (nb:Int))):=hid (fun w' hb=>by
  have x1:=(bF HOA.out (dA HB13.out hb)).cellAt 1 (by have:=HN1.out;omega);have x2:=(bF HOB.out (dA HB23.out hb)).cellAt 1 (by have:=HN2.out;omega);exact⟨x1,x2⟩)
 have z2:IntKind.i64.wrap ((na:Int)+(nb:Int))=(na:Int)+(nb:Int):=by simp [IntKind.wrap,IntKind.bits,IntKind.signed];omega
 have i1:(0:Int) < (n1:Int):=by have:=HN1.out;omega
 have i2:(0:Int) < (n2:Int):=by have:=HN2.out;omega
 have i3:(1:Int)≤(n1:Int):=by omega
 have i4:(1:Int)≤(n2:Int):=by omega
 have j1:0 < n1:=by omega
 have j2:0 < n2:=by omega
 have j3:1≤n1:=by omega
 have j4:1≤n2:=by omega
 have i5:n1≤pc:=Grd.IK HOA.out;have i6:n2≤qc:=Grd.IK HOB.out;clear d1 d2 z1 e1 e1' e2 e2' f1 f2 f3 f4;have hb4:=(Below.refl w3.heap.size w3).drew;refine wp_region_held_drew (S:=fun w'=>w'.cell? ⟨ga,1,none⟩=some (.int .i64 (na:Int))∧w'.cell? ⟨gb,1,none⟩=some (.int .i64 (nb:Int))) (by kernel_rfl) ?_ (fun hHeld=>?_)
 ·exact HS.out _ hb4
 refine tk 0 ?_;try simp only [Act.put,ls]
 refine tk 1 ?_;try simp only [Act.put,ls]
 refine tk 2 ?_;try simp only [Act.put,ls]
 refine tk 3 ?_;try simp only [Act.put,ls]
 refine tk 4 ?_;try simp only [Act.put,ls]
 refine tk 5 ?_;try simp only [Act.put,ls]
 refine tk 6 ?_;try simp only [Act.put,ls]
 refine tk 7 ?_;try simp only [Act.put,ls]
 refine tk 8 ?_;try simp only [Act.put,ls]
 refine tk 9 ?_;try simp only [Act.put,ls]
 refine tk 11 ?_;try simp only [Act.put,ls]
 refine tk 12 ?_;try simp only [Act.put,ls]
 refine wpAnyH_ready (rs:=[10]) (by kernel_rfl) (by simp) (AllReadyH.cons (o:=?_) ?_ (fun K hK=>?_) AllReadyH.nil)
 rotate_left
 ·(first|(simp only [List.getElem?_toArray,List.getElem?_cons_succ,List.getElem?_cons_zero];done)|(simp only [List.getElem?_toArray,List.getElem?_cons_succ,List.getElem?_cons_zero];exact rfl))
 go_simp;go_wp2_with fail;have hb5:=hb4.alloc hb4.size (Obj.cells #[.int .u8 13,.int .i64 ((na:Int)+(nb:Int)),.string ⟨#[]⟩] 39);refine hK.out _ _ ?_ (fun hHeld10=>?_)
 ·exact HS.out _ hb5
 clear hK K
 try simp only [Act.put,ls]
 refine wpAnyH_ready (rs:=[13]) (by kernel_rfl) (by simp) (AllReadyH.cons (o:=?_) ?_ (fun K hK=>?_) AllReadyH.nil)
 rotate_left
 ·(first|(simp only [List.getElem?_toArray,List.getElem?_cons_succ,List.getElem?_cons_zero];done)|(simp only [List.getElem?_toArray,List.getElem?_cons_succ,List.getElem?_cons_zero];exact rfl))
 refine CQ0 (by rfl) _ _ _ (by rfl) w3.heap.size 39 iN _ 3 32 Tryz.underlying22 hiN hz0 hz1 hz2 rfl (by omega) (.slice (some ⟨w3.heap.size,0,none⟩) 1 1) 1 [.int .u8 13,.int .i64 ((na:Int)+(nb:Int)),.string ⟨#[]⟩] (by rfl) (World.ownsRow_lit w3.drew #[.int .u8 13,.int .i64 ((na:Int)+(nb:Int)),.string ⟨#[]⟩] 1 (by simp) (by decide) (by rfl)) ada (n1 - 1) _ (CF ra) (by rfl) (by rw [AQ0,HN1.out];omega) (HNA.out _ hb5) (EQ0 ra) (by have:=HN1.out;unfold maxLen;omega) (by have:=HN1.out;omega) (by simp) ?_;intro v6 w6 hown6 hgrow6;rw [show 1+(n1 - 1)=n1 by omega] at hown6;obtain⟨g6,c6,rfl,hg6,-⟩:=hown6.form j1;have hb6:=hb5.grown hgrow6 hb5.size (fun k h=>by cases h;simp);clear hgrow6;refine hK.out _ _ ?_ (fun hHeld13=>?_)
 ·exact HS.out _ hb6
 clear hK K
 try simp only [Act.put,ls]
 refine wpAnyH_ready (rs:=[14]) (by kernel_rfl) (by simp) (AllReadyH.cons (o:=?_) ?_ (fun K hK=>?_) AllReadyH.nil)
 rotate_left
 ·(first|(simp only [List.getElem?_toArray,List.getElem?_cons_succ,List.getElem?_cons_zero];done)|(simp only [List.getElem?_toArray,List.getElem?_cons_succ,List.getElem?_cons_zero];exact rfl))
 go_simp;go_wp2_with fail;refine hK.out _ _ ?_ (fun hHeld14=>?_)
 ·exact HS.out _ hb6
 clear hK K
 try simp only [Act.put,ls]
 refine wpAnyH_done (by kernel_rfl) ?_ _;go_wp2_with (at_builtin;refine wpList_append_own_at _ rfl (.tmp 70) (.tmp 72) 22 rfl w3.heap.size 39 iN _ 3 32 Tryz.underlying22 hiN hz0 hz1 hz2 rfl (by decide) _ _ _ rfl hown6 adb (n2 - 1) _ (CF rb) rfl (by rw [AQ0,HN2.out];omega) (HNB.out _ hb6) (EQ0 rb) (by have:=HN1.out;have:=HN2.out;unfold maxLen;omega) (by have:=HN1.out;have:=HN2.out;omega) hb6.size ?_);intro v8 w8 hown8 hgrow8 _ _;have hb8:=hb6.grown hgrow8 hb6.size (fun k h=>by cases h;exact hg6);obtain⟨nz,hnz⟩:∃ nz,nz=n1+(n2 - 1):=⟨_,rfl⟩;rw [← hnz] at hown8;have hnz2:nz=ra.length+rb.length+1:=by have:=HN1.out;have:=HN2.out;omega
 have HNZ:=hid hnz2;have j5:0 < nz:=by omega
 clear hnz hnz2;obtain⟨g8,c8,rfl,-,-⟩:=hown8.form j5;have HPZ:Hid (tB w8 (some ⟨g8,0,none⟩) (⟨13,(na:Int)+(nb:Int),[]⟩::(ra.map ptG++rb.map ptG))):=hid (by
  have e1:Value.int .u8 13::.int .i64 ((na:Int)+(nb:Int))::.string ⟨#[]⟩::(CF ra++CF rb)=CF (⟨13,na+nb,[]⟩::(ra++rb)):=by
   have e2:∀ (x:Pt3) (l:List Pt3),CF (x::l)=TJ x++CF l:=fun _ _=>rfl
   rw [e2,MQ0];simp [TJ]
  rw [e1] at hown8;have e3:=qP hown8 (by have:=HNZ.out;simp;omega);rw [List.map_cons,List.map_append] at e3;have e4:ptG ⟨13,na+nb,[]⟩=⟨13,(na:Int)+(nb:Int),[]⟩:=by simp [ptG]
  rw [e4] at e3;exact e3)
 have HPA:Hid (tB w8 (some ⟨ga,0,none⟩) (⟨13,na,[]⟩::ra.map ptG)):=hid (qP (bF HOA.out (dA HB13.out hb8)) (by have:=HN1.out;simp;omega));have HPB:Hid (tB w8 (some ⟨gb,0,none⟩) (⟨13,nb,[]⟩::rb.map ptG)):=hid (qP (bF HOB.out (dA HB23.out hb8)) (by have:=HN2.out;simp;omega));rw [← HN1.out] at HFA;rw [← HN2.out] at HFB;rw [← HNZ.out] at HFZ;have HB8:=hid (dA HB3.out hb8);clear hgrow8 hown8 hown6 hb8 hb6 hb5 hb4 hg6 HNA HNB HOA HOB HB3 HB13 HB12 HB23 HB2 HX HS1 HS2 HS z2 i1 i2 i3 i4 j1 j2 j3 j4 hada hadb hHeld hHeld10 hHeld13 hHeld14 hiN hz0 hz1 hz2;go_wp2_with fail;refine (HFA.out ga pc w8 (HT.out.below HB8.out) HPA.out).mono ?_;rintro e w9 ⟨xa,xc,rfl,hf9,hb9⟩;have HF9:=hid hf9;have HB89:=hid hb9;clear hf9 hb9 HFA;go_wp2_with fail;refine (HFB.out gb qc w9 (HT.out.below (dA HB8.out HB89.out)) (HPB.out.later HB89.out)).mono ?_;rintro e w10 ⟨ya,yc,rfl,hf10,hb10⟩;have HF9':=hid (HF9.out.keep hb10);have HF10:=hid hf10;have HB810:=hid (dA HB89.out hb10);clear hf10 hb10 HFB HF9 HB89;go_wp2_with fail;refine (HFZ.out g8 c8 w10 (HT.out.below (dA HB8.out HB810.out)) (HPZ.out.later HB810.out)).mono ?_;rintro e w11 ⟨za,zc,rfl,hf11,hb11⟩;have HA:=hid (HF9'.out.keep hb11);have HBf:=hid (HF10.out.keep hb11);have HZ:=hid hf11;have HB11:=hid (dA HB8.out (dA HB810.out hb11));clear hf11 hb11 HFZ HF9' HF10 HB810 HB8 HPA HPB HPZ HT;have z3:IntKind.i64.wrap ((FA.length:Int)+(FB.length:Int))=(FZ.length:Int):=by have:=HZL.out;simp [IntKind.wrap,IntKind.bits,IntKind.signed];omega
 go_upto_region 14 with fail;go_wp2_with fail;clear z3;have hfzb:FZ.length≤4000000000:=by have:=HZL.out;omega
 go_loopw [16] (fun v w'=>∃ i:Nat,v=.int .i64 (i:Int)∧i≤FZ.length∧Below w11.heap.size w11 w') (fun v _=>((FZ.length:Int) - intOf v).toNat)
 case atStart=>exact⟨0,rfl,by omega,Below.refl _ _⟩
 case round =>
  obtain⟨i,rfl,hi,hbel⟩:=hrel;by_cases hlt:i < FZ.length
  ·rcases HZ.out with h0|⟨zb,zoff,rfl,hzb,hzc⟩
   ·subst h0;simp at hlt
   obtain⟨p0,p1⟩:=hzc i FZ[i] (List.getElem?_eq_getElem hlt);have p0:=zE hbel hzb p0;have p1:=zE hbel hzb p1;have hzi:FZ[i]?=some FZ[i]:=List.getElem?_eq_getElem hlt;have i0:(0:Int)≤(i:Int):=by omega
   have i1:(i:Int) < (FZ.length:Int):=by omega
   clear hzc;generalize FZ[i]=x at *;obtain⟨k1,n1z⟩:=x;simp only [] at p0 p1;rw [HEZ.out] at hzi;by_cases hA:i < FA.length
   ·rw [List.getElem?_append_left hA] at hzi;rcases HA.out with h0|⟨xb,xoff,rfl,hxb,hxc⟩
    ·subst h0;simp at hA
    obtain⟨q0,q1⟩:=hxc i _ hzi;have q0:=zE hbel hxb q0;have q1:=zE hbel hxb q1;simp only [] at q0 q1;have d1:decide ((i:Int) < (FA.length:Int))=true:=by simp;omega
    have d1':decide (i < FA.length)=true:=by simp;omega
    have d2:decide ((FA.length:Int)≤(i:Int))=false:=by simp;omega
    have d2':decide (FA.length≤i)=false:=by simp;omega
    have i2:(i:Int) < (FA.length:Int):=by omega
    clear hxc hzi hA;go_upto_region 17 with fail;go_big_quiet (fail);go_upto_region 19 with fail;go_big_quiet (fail);go_wp2_with fail;go_roundw
    case rel=>exact⟨i+1,by go_num,by omega,Go.below_drewN hbel _⟩
    case measure=>simp only [intOf];first|omega|(go_num;omega)|go_num
   ·rw [List.getElem?_append_right (by omega),List.getElem?_map] at hzi;obtain⟨y,hy,hxy⟩:=Option.map_eq_some_iff.1 hzi;have hyb:=HMB.out y (List.mem_of_getElem? hy);have hml:=(List.getElem?_eq_some_iff.1 hy).1;obtain⟨k0,m0⟩:=y;unfold sh at hxy;simp only [Prod.mk.injEq] at hxy hyb;obtain⟨rfl,hpz⟩:=hxy;rcases HBf.out with h0|⟨yb,yoff,rfl,hyb2,hyc⟩
    ·subst h0;simp at hml
    obtain⟨q0,q1⟩:=hyc _ _ hy;have q0:=zE hbel hyb2 q0;have q1:=zE hbel hyb2 q1;simp only [] at q0 q1;obtain⟨m,hm⟩:∃ m,m=i - FA.length:=⟨_,rfl⟩;rw [← hm] at q0 q1 hml;obtain⟨u1,hu1⟩:∃ u,u=m0+n1:=⟨_,rfl⟩;have y1:IntKind.i64.wrap ((i:Int) - (FA.length:Int))=(m:Int):=by simp [IntKind.wrap,IntKind.bits,IntKind.signed];omega
    have y2:IntKind.i64.wrap ((m0:Int)+(n1:Int))=(u1:Int):=by have:=HN1.out;simp [IntKind.wrap,IntKind.bits,IntKind.signed];omega
    have y3:IntKind.i64.wrap ((u1:Int) - 1)=(n1z:Int):=by have:=HN1.out;simp [IntKind.wrap,IntKind.bits,IntKind.signed];omega
    have d1:decide ((i:Int) < (FA.length:Int))=false:=by simp;omega
    have d1':decide (i < FA.length)=false:=by simp;omega
    have d2:decide ((FA.length:Int)≤(i:Int))=true:=by simp;omega
    have d2':decide (FA.length≤i)=true:=by simp;omega
    have i2:(0:Int)≤(m:Int):=by omega
    have i3:(m:Int) < (FB.length:Int):=by omega
    clear hyc hzi hA hy hpz hm hu1 hyb;go_upto_region 17 with fail;go_big_quiet (fail);go_upto_region 19 with fail;go_big_quiet (fail);go_wp2_with fail;go_roundw
    case rel=>exact⟨i+1,by go_num,by omega,Go.below_drewN hbel _⟩
    case measure=>simp only [intOf];first|omega|(go_num;omega)|go_num
  ·have:i=FZ.length:=by omega
   subst this;go_wp2_with fail;go_ret;exact⟨rfl,dA HB11.out hbel⟩
theorem count_le:∀ f:Grd.Fo,f.count≤f.size
 | .nil=>Nat.le_refl _
 | .cons _ k r=>by have:=count_le r;simp only [Grd.Fo.count,Grd.Fo.size];omega
theorem OQ0 {n:Nat}{l:List Pt} (h:fF (⟨13,n,[]⟩::l)=true):n≤l.length:=by
 unfold fF at h;rw [Bool.and_eq_true] at h;obtain⟨q,k,e,hc,_⟩:=Grd.VP _ h.1;obtain⟨rfl,rfl⟩:=List.cons.inj e;have h1:=count_le k;have h2:=Grd.Fo.flat_len k;have h3:(k.count:Int)=(n:Int):=hc;omega
theorem PQ0 (s t:List UInt8) (hT:NC w) (hm:s.length+t.length≤1125899906842624) :
  Calls Tryz.prog 5 #[.string ⟨s.toArray⟩,.string ⟨t.toArray⟩] w fun e w'=>e=.returned (.bool true)∧Below w.heap.size w w':=by
 rcases BQ0 s with ⟨er,ea,h1,h2⟩|⟨na,ra,ca,la,wa,hS⟩
 ·exact HQ0 s t hT er ea h1 h2
 ·rcases BQ0 t with ⟨er,ea,h1,h2⟩|⟨nb,rb,cb,lb,wb,hS2⟩
  ·exact GQ0 s t hT _ hS er ea h1 h2
  ·by_cases hg:3000 < s.length+t.length
   ·exact RQ0 s t hT _ hS _ hS2 hg hm
   ·have h1:=OQ0 ca;have h2:=OQ0 cb;rw [List.length_map] at h1 h2;exact JQ0 s t hT na nb ra rb ca (by omega) wa cb (by omega) wb (by omega) (by omega) (by omega) hS hS2 (by omega)
end Shp
end Go.Proofs.YtcjmpafkcmlhbaaGreatDoor
