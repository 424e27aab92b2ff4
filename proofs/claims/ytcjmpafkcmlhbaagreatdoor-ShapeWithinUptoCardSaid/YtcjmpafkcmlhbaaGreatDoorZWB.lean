import Derived.Test.YtcjmpafkcmlhbaaGreatDoorZWA
import Derived.Deep.Slices
import Derived.Deep.Fields
import Derived.ChangeSame
import Derived.Carry
import Derived.ChangeArms
import Derived.Test.YtcjmpafkcmlhbaaGreatDoorQBN
import Derived.Test.YtcjmpafkcmlhbaaGreatDoorQAG
import Derived.Test.YtcjmpafkcmlhbaaGreatDoorQBT
import Derived.Test.YtcjmpafkcmlhbaaGreatDoorQBV
namespace Go.Proofs.YtcjmpafkcmlhbaaGreatDoor
open _root_.Go.Lib(hid)
set_option linter.all false
set_option maxHeartbeats 40000000
set_option maxRecDepth 100000
namespace Shp
open Go.RowKit
open Grd (Pt tB)
variable {w:World}
theorem QQ {lo n:Nat}{a:Option Addr}{cap:Nat}:∀ {l:List (Nat × Nat)},w.ownsRow lo 41 2 (.slice a n cap) n (EI l)→sV w a l:=by
 intro l h;by_cases h0:l=[]
 ·subst h0;exact .inl rfl
 right
 have hp:0 < l.length:=List.length_pos_iff.2 h0;have hat:∀ (l:List (Nat × Nat)) (j:Nat) (x:Nat × Nat),l[j]?=some x→∀ i v,(flV x)[i]?=some v→(EI l)[j*2+i]?=some v:=by
  intro l
  induction l with
  | nil=>intro j x hx;simp at hx
  | cons y l ih =>
   intro j x hx i v hv;have hl:(flV y).length=2:=rfl;have e:EI (y::l)=flV y++EI l:=rfl;cases j with
   | zero =>
    simp at hx;subst hx;have hi:i < 2:=by rw [← hl];exact (List.getElem?_eq_some_iff.1 hv).1
    rw [e,List.getElem?_append_left (by rw [hl];omega),show 0*2+i=i by omega];exact hv
   | succ j =>
    rw [e,List.getElem?_append_right (by rw [hl];omega),hl,show (j+1)*2+i - 2=j*2+i by omega];exact ih j x (by simpa using hx) i v hv
 have key:∀ (j:Nat) (x:Nat × Nat),l[j]?=some x→∀ i v,(flV x)[i]?=some v→∃ b,a=some ⟨b,0,none⟩∧b < w.heap.size∧w.cell? ⟨b,j*2+i,none⟩=some v:=fun j x hx i v hv=>by
  obtain⟨b,e,_,hb,hc⟩:=GA h (hat l j x hx i v hv);exact⟨b,e,hb,hc⟩
 obtain⟨b,e,hb,_⟩:=key 0 l[0] (List.getElem?_eq_getElem hp) 0 _ rfl;refine⟨b,0,e,hb,fun j x hx=>?_⟩;obtain⟨_,e0,_,c0⟩:=key j x hx 0 _ rfl;obtain⟨_,e1,_,c1⟩:=key j x hx 1 _ rfl;rw [e] at e0 e1;cases e0;cases e1;rw [Nat.zero_add];exact⟨c0,c1⟩
theorem fV (w:World) (b r p:Nat) (h:w.heap[b]?=some (.cells #[.int .u8 (r:Int),.int .i64 (p:Int)] 41 (0,0))):sV w (some ⟨b,0,none⟩) [(r,p)]:=by
 refine .inr ⟨b,0,rfl,RA h,fun j x hj=>?_⟩;have hl:j < 1:=(List.getElem?_eq_some_iff.1 hj).1;have hc:j=0:=by omega
 unfold World.cell?;rw [h];subst hc;cases hj;exact⟨rfl,rfl⟩
def SN (x:List (Nat × Nat)) (w:World) (e:Ending) (w':World):Prop:=∃ a c,e=.returned (.tuple #[.slice a x.length c,.agg #[.int .i64 0,.int .i64 0]])∧w'.ownsRow w.heap.size 41 2 (.slice a x.length c) x.length (EI x)∧Below w.heap.size w w'
theorem zO {goal:UInt8}{s:List UInt8}{x:List (Nat × Nat)} (h:jN goal s=some x) (w:World) (hT:NC w):Calls Tryz.prog 25 #[.int .u8 (goal.toNat:Int),.string ⟨s.toArray⟩] w (SN x w):=by
 obtain⟨l,t,hr,hx⟩:=nR h;have h1:=bU goal s hT;rw [hr] at h1;refine h1.mono ?_;rintro e w2 ⟨v,rfl,hq,hb⟩;have hq:w2.ownsRow w.heap.size 41 2 v (AA (oE s l t) (oE s l t).length).length (EI (AA (oE s l t) (oE s l t).length)):=hq;rw [hx] at hq;obtain⟨a,c,rfl⟩:=Grd.ID hq;exact⟨a,c,rfl,hq,hb⟩
theorem tJ (hT:NC w):Calls Tryz.prog 13 #[] w (fun e w'=>e=.returned (.bool true)∧Below w.heap.size w w'):=by
 have H1:∀ w,NC w→Calls Tryz.prog 25 #[.int .u8 3,.string ⟨#[120]⟩] w (SN [(11,1)] w):=fun w h=>zO fx1 w h
 have H2:∀ w,NC w→Calls Tryz.prog 25 #[.int .u8 1,.string ⟨#[102,117,110,99,40,97,46,98,44,32,99,32,105,110,116,41]⟩] w (SN [(3,3)] w):=fun w h=>zO fx2 w h
 have H3:∀ w,NC w→Calls Tryz.prog 25 #[.int .u8 2,.string ⟨#[91,46,46,46,93,105,110,116,123,49,125]⟩] w (SN [] w):=fun w h=>zO fx3 w h
 have HT:=hid hT;have HH1:=hid H1;have HH2:=hid H2;have HH3:=hid H3;clear hT H1 H2 H3;go_enter Tryz.func13,Tryz.ntmps13;go_upto_region 1 with fail;go_wp2_with fail;refine (HH1.out _ HT.out).mono ?_;rintro e w1 ⟨a1,c1,rfl,hr1,hb1⟩;have HR1:=hid (And.intro hr1 hb1);clear hr1 hb1;go_upto_region 2 with fail;have h2:=heap_alloc_new w1 (Obj.cells #[.int .i64 0,.int .i64 0] 25);have b2:=(Below.refl w1.heap.size w1).alloc (Nat.le_refl _) (Obj.cells #[.int .i64 0,.int .i64 0] 25);have s2:w1.heap.size < (w1.alloc (Obj.cells #[.int .i64 0,.int .i64 0] 25)).heap.size:=by simp
 have HB2:=hid (dA HR1.out.2 b2);have HO2:=hid (qD HR1.out.1 (Fr.below (X:=[]) b2) (by simp));clear b2 HR1;generalize w1.alloc (Obj.cells #[.int .i64 0,.int .i64 0] 25)=wA at *;go_wp2_with fail;refine (HH2.out _ (HT.out.below HB2.out)).mono ?_;rintro e w2 ⟨a2,c2,rfl,hr2,hb2⟩;have h2:=(hb2.block _ s2).trans h2;have l2:=Nat.lt_of_lt_of_le s2 hb2.size;have HB3:=hid (dA HB2.out hb2);have HO3:=hid (And.intro (qD HO2.out (Fr.below (X:=[]) hb2) (by simp)) hr2);clear hr2 hb2 s2 HB2 HO2;go_upto_region 3 with fail;have h4:=heap_alloc_new w2 (Obj.cells #[.int .i64 0,.int .i64 0] 25);have b4:=(Below.refl w2.heap.size w2).alloc (Nat.le_refl _) (Obj.cells #[.int .i64 0,.int .i64 0] 25);have s4:w2.heap.size < (w2.alloc (Obj.cells #[.int .i64 0,.int .i64 0] 25)).heap.size:=by simp
 have h2:=(b4.block _ l2).trans h2;have HB4:=hid (dA HB3.out b4);have HO4:=hid (And.intro (qD HO3.out.1 (Fr.below (X:=[]) b4) (by simp)) (qD HO3.out.2 (Fr.below (X:=[]) b4) (by simp)));clear b4 HB3 HO3;generalize w2.alloc (Obj.cells #[.int .i64 0,.int .i64 0] 25)=wB at *;go_wp2_with fail;refine (HH3.out _ (HT.out.below HB4.out)).mono ?_;rintro e w3 ⟨a3,c3,rfl,-,hb3⟩;have h2:=(hb3.block _ (Nat.lt_trans l2 s4)).trans h2;have h4:=(hb3.block _ s4).trans h4;have l4:=Nat.lt_of_lt_of_le s4 hb3.size;have HB5:=hid (dA HB4.out hb3);have HO5:=hid (And.intro (qD HO4.out.1 (Fr.below (X:=[]) hb3) (by simp)) (qD HO4.out.2 (Fr.below (X:=[]) hb3) (by simp)));clear hb3 s4 HB4 HO4;go_upto_region 4 with fail;have h6:=heap_alloc_new w3 (Obj.cells #[.int .i64 0,.int .i64 0] 25);have b6:=(Below.refl w3.heap.size w3).alloc (Nat.le_refl _) (Obj.cells #[.int .i64 0,.int .i64 0] 25);have h2:=(b6.block _ (Nat.lt_trans l2 l4)).trans h2;have h4:=(b6.block _ l4).trans h4;have HB6:=hid (dA HB5.out b6);have HO6:=hid (And.intro (qD HO5.out.1 (Fr.below (X:=[]) b6) (by simp)) (qD HO5.out.2 (Fr.below (X:=[]) b6) (by simp)));clear b6 HB5 HO5;generalize w3.alloc (Obj.cells #[.int .i64 0,.int .i64 0] 25)=wC at *;obtain⟨g1,g2,_,_⟩:=YB h2;obtain⟨g3,g4,_,_⟩:=YB h4;obtain⟨g5,g6,_,_⟩:=YB h6;clear HH1 HH2 HH3;clear h2 h4 h6;go_wp2_with fail;have k1:=heap_alloc_new wC (Obj.cells #[.int .u8 11,.int .i64 1] 41);have d1:=(Below.refl wC.heap.size wC).alloc (Nat.le_refl _) (Obj.cells #[.int .u8 11,.int .i64 1] 41);have HB7:=hid (dA HB6.out d1);have HO7:=hid (And.intro (qD HO6.out.1 (Fr.below (X:=[]) d1) (by simp)) (qD HO6.out.2 (Fr.below (X:=[]) d1) (by simp)));clear d1 HB6 HO6;generalize wC.alloc (Obj.cells #[.int .u8 11,.int .i64 1] 41)=wD at *;refine (sK (w:=wD) a1 (some ⟨wC.heap.size,0,none⟩) c1 1 [(11,1)] (by decide) (QQ HO7.out.1) (fV wD _ 11 1 k1)).mono ?_;rintro e w4 ⟨rfl,hb4⟩;have HB8:=hid (dA HB7.out hb4);have HO8:=hid (qD HO7.out.2 (Fr.below (X:=[]) hb4) (by simp));clear k1 hb4 HB7 HO7;go_wp2_with fail;have k2:=heap_alloc_new w4 (Obj.cells #[.int .u8 3,.int .i64 3] 41);have d2:=(Below.refl w4.heap.size w4).alloc (Nat.le_refl _) (Obj.cells #[.int .u8 3,.int .i64 3] 41);have HB9:=hid (dA HB8.out d2);have HO9:=hid (qD HO8.out (Fr.below (X:=[]) d2) (by simp));clear d2 HB8 HO8;generalize w4.alloc (Obj.cells #[.int .u8 3,.int .i64 3] 41)=wE at *;refine (sK (w:=wE) a2 (some ⟨w4.heap.size,0,none⟩) c2 1 [(3,3)] (by decide) (QQ HO9.out) (fV wE _ 3 3 k2)).mono ?_;rintro e w5 ⟨rfl,hb5⟩;have HBA:=hid (dA HB9.out hb5);clear k2 hb5 HB9 HO9;go_wp2_with fail;go_ret;exact⟨rfl,HBA.out⟩
end Shp
namespace Shp
open Go.RowKit
open Grd (Pt tB)
def VX (a b:Nat × Nat):Prop:=a.2 < b.2∨a.2=b.2∧a.1 < b.1
theorem fK {l:List Pt}{i r:Nat}{x:Nat × Nat} (h:x∈iB l i r):x.2=i∧1≤x.1∧x.1≤r:=by
 unfold iB at h;obtain⟨k,hk,rfl⟩:=List.mem_map.1 h;have:=List.mem_range.1 (List.mem_filter.1 hk).1;exact⟨rfl,by simp,by simp;omega⟩
theorem jY {l:List Pt}{n:Nat}{x:Nat × Nat} (h:x∈AA l n):x.2 < n∧1≤x.1∧x.1≤15:=by
 unfold AA at h;obtain⟨i,hi,hx⟩:=List.mem_flatMap.1 h;have:=List.mem_range.1 hi;obtain⟨h1,h2,h3⟩:=fK hx;exact⟨by omega,h2,h3⟩
theorem aT (l:List Pt) (n:Nat):(AA l n).Pairwise VX:=by
 unfold AA;rw [List.pairwise_flatMap];refine⟨fun i _=>?_,?_⟩
 ·unfold iB;rw [List.pairwise_map];exact (List.pairwise_lt_range.sublist List.filter_sublist).imp fun h=>.inr ⟨rfl,by simp;omega⟩
 ·refine List.pairwise_lt_range.imp fun {a b} hab x hx y hy=>?_
  have h1:=(fK hx).1;have h2:=(fK hy).1;exact .inl (by omega)
theorem vW {l:List Pt}{n j:Nat}{x y:Nat × Nat} (hx:(AA l n)[j]?=some x) (hy:(AA l n)[j+1]?=some y):VX x y:=by
 obtain⟨h1,e1⟩:=List.getElem?_eq_some_iff.1 hx;obtain⟨h2,e2⟩:=List.getElem?_eq_some_iff.1 hy;have:=List.pairwise_iff_getElem.1 (aT l n) j (j+1) h1 h2 (by omega)
 rwa [e1,e2] at this
theorem CY (l:List Pt) (n:Nat):(AA l n).length≤15*n:=by
 induction n with
 | zero=>simp [AA]
 | succ n ih =>
  have h1:AA l (n+1)=AA l n++iB l n 15:=by simp [AA,List.range_succ]
  have h2:(iB l n 15).length≤15:=by
   unfold iB;rw [List.length_map];exact Nat.le_trans (List.length_filter_le _ _) (by simp)
  rw [h1,List.length_append];omega
end Shp
section
open Go.ChangeShapes Go.WideShapes Go.ChangeAt Go.RowKit Go.WideMaps Go.Joins Go.Deep Grd
section
variable {H:Type}{enc:TypeId × Value→H}{P:Program}{w:World}{base:Nat}{spare:Nat→Bool}{held:Bool}
theorem RJ {t e:TypeId}{fs:Array Field}{fuel:Nat}{cs:List Value}{x:DataW H × List MemPlace} (ht:P.underlying t=some (.slice e)) (he:P.underlying e=some (.struct fs))
  (hone:oneCellFields P fs=true) (hC:P.cellsOf e=fs.size) (h:DataW.trod enc P w base spare held fuel t cs=some x) :
  (cs=[.slice none 0 0]∧x=(.nil,[])) ∨
  ∃ (a:Addr) (len cap m:Nat) (D:Nat→DataW H) (Pl:Nat→List MemPlace),cs=[.slice (some a) len cap]∧base≤a.block∧len≤cap∧cap≤maxLen∧m=(if spare a.block then cap else len) ∧
   x=(.slice ((List.range len).map D) ((List.range (m - len)).map fun j=>D (len+j)),MemPlace.row a (m*fs.size)++(List.range m).flatMap Pl) ∧
   ∀ i,i < m→∃ (ys:List (DataW H × List MemPlace)) (n:Nat),D i=.agg (ys.map (·.1))∧Pl i=ys.flatMap (·.2)∧ys.length=fs.size ∧
    ∀ (j:Nat) (f:Field),fs[j]?=some f→∃ (v:Value) (y:DataW H × List MemPlace),w.cell? (a.add (i*fs.size+j))=some v∧ys[j]?=some y∧DataW.trod enc P w base spare held n f.type [v]=some y:=by
 rcases open_slice ht h with h0|⟨a,len,cap,m,n,D,Pl,hcs,hb,hl,hm,hmm,hx,hi⟩
 ·exact .inl h0
 ·refine .inr ⟨a,len,cap,m,D,Pl,hcs,hb,hl,hm,hmm,by rw [hC] at hx;exact hx,fun i him=>?_⟩;obtain⟨cs',hc,ht'⟩:=hi i him;rw [hC] at hc;obtain⟨ys,n',hn',hy,hlen,hyl,hf⟩:=DataW.trod_struct he ht';obtain⟨_,hcl,hat⟩:=World.cells?_some hc;simp only [Prod.mk.injEq] at hy;refine⟨ys,n',hy.1,hy.2,hyl,fun j f hj=>?_⟩;obtain⟨ho,hk⟩:=hone_of hone j f hj;have hjl:j < fs.size:=(Array.getElem?_eq_some_iff.1 hj).1;have hcell:=hat j hjl;have hv:cs'[j]?=some (cs'[j]'(by omega)):=List.getElem?_eq_getElem (by omega);have h1:=hf j f hj;rw [ho,hk] at h1;have hone':(cs'.drop j).take 1=[cs'[j]'(by omega)]:=by
   rw [List.drop_eq_getElem_cons (by omega)]
   rfl
  rw [hone'] at h1;have hys:ys[j]?=some (ys[j]'(by omega)):=List.getElem?_eq_getElem (by omega);refine⟨_,_,?_,hys,h1.trans hys⟩;rw [← Go.Deep.add_add,hcell,hv]
end
section
variable {H:Type}{enc:TypeId × Value→H}{W:World}{sp:Nat→Bool}{held:Bool}
def ptD (H:Type) (p:Pt):DataW H:=.agg [.lit (.int .u8 p.k.toNat),.lit (.int .i64 p.n),.lit (.string p.w)]
theorem LS {α:Type} (P:Nat→α→Prop):∀ n:Nat,(∀ i,i < n→∃ p,P i p)→∃ l:List α,l.length=n∧∀ i p,l[i]?=some p→P i p
 | 0,_=>⟨[],rfl,fun i p h=>by simp at h⟩
 | n+1,h=>by
  obtain⟨l,hl,hp⟩:=LS P n (fun i hi=>h i (by omega));obtain⟨q,hq⟩:=h n (by omega);refine⟨l++[q],by simp [hl],fun i p hi=>?_⟩;by_cases hin:i < l.length
  ·rw [List.getElem?_append_left hin] at hi;exact hp i p hi
  ·rw [List.getElem?_append_right (by omega)] at hi;have:i - l.length=0:=by
    rcases Nat.eq_zero_or_pos (i - l.length) with e|e
    ·exact e
    ·rw [List.getElem?_eq_none (by simp;omega)] at hi;cases hi
   rw [this] at hi;simp only [List.getElem?_cons_zero,Option.some.injEq] at hi;subst hi;have:i=n:=by omega
   subst this;exact hq
theorem kR {r:Reach}{b0:Nat}{v:Value}{d:DataW H}{p:List MemPlace} (hv:Value.okWide Tryz.prog W r b0 22 v) (h:DataW.Trod enc Tryz.prog W 0 sp held 22 v d p) :
  ∃ (a:Option Addr) (l:List Pt) (cap:Nat),v=.slice a l.length cap∧l.length≤cap∧tB W a l∧(l≠[]→∃ s,d=.slice (l.map (ptD H)) s):=by
 obtain⟨a,len,cap,rfl⟩:=okWide_slice Tryz.underlying22 hv;obtain⟨fuel,hf⟩:=h;rcases RJ Tryz.underlying22 Tryz.underlying39 (by kernel_rfl) (by kernel_rfl) hf with ⟨hcs,_⟩|⟨a',len',cap',m,D,Pl,hcs,_,hl,_,hm,hx,hi⟩
 ·simp [Value.cells] at hcs;obtain⟨rfl,rfl,rfl⟩:=hcs;exact⟨none,[],0,rfl,Nat.le_refl _,.inl rfl,fun h=>absurd rfl h⟩
 ·simp [Value.cells] at hcs;obtain⟨rfl,rfl,rfl⟩:=hcs;have hml:len≤m:=by rw [hm];split <;> omega
  obtain⟨l,hll,hlp⟩:=LS (fun i (q:Pt)=>W.cell? (a'.add (i*3))=some (.int .u8 (q.k.toNat:Int))∧W.cell? (a'.add (i*3+1))=some (.int .i64 q.n)∧W.cell? (a'.add (i*3+2))=some (.string ⟨q.w.toArray⟩)∧D i=ptD H q) len (fun i hil=>by
   obtain⟨ys,n,hD,_,hyl,hff⟩:=hi i (by omega);obtain⟨v0,y0,c0,e0,t0⟩:=hff 0 _ rfl;obtain⟨v1,y1,c1,e1,t1⟩:=hff 1 _ rfl;obtain⟨v2,y2,c2,e2,t2⟩:=hff 2 _ rfl;obtain⟨k,hk,rfl,wk⟩:=DataW.trod_int Tryz.underlying5 t0;obtain⟨nn,hn,rfl,_⟩:=DataW.trod_int Tryz.underlying3 t1;obtain⟨s,hs,rfl,_⟩:=DataW.trod_string Tryz.underlying9 t2;simp only [List.cons.injEq,and_true] at hk hn hs;subst hk hn hs;obtain⟨⟨w⟩⟩:=s;have hkr:0≤k∧k < 256:=by
    have h1:IntKind.u8.min=0:=rfl;have h2:IntKind.u8.max=255:=rfl;simp only [Lit.wf,Bool.and_eq_true,decide_eq_true_eq] at wk;omega
   obtain⟨kn,rfl⟩:=Int.eq_ofNat_of_zero_le hkr.1;have hkn:((UInt8.ofNat kn).toNat:Int)=(kn:Int):=by rw [UInt8.toNat_ofNat',Nat.mod_eq_of_lt (by omega)]
   refine⟨⟨UInt8.ofNat kn,nn,w⟩,by rw [hkn];exact c0,c1,c2,?_⟩;rw [hD];have hyl:ys.length=3:=hyl
   match ys,hyl,e0,e1,e2 with
   | [x0,x1,x2],_,e0,e1,e2 =>
    simp only [List.getElem?_cons_zero,List.getElem?_cons_succ,Option.some.injEq] at e0 e1 e2;subst e0 e1 e2;simp only [ptD,hkn,List.map_cons,List.map_nil])
  subst hll;refine⟨some a',l,cap,rfl,hl,?_,fun _=>⟨(List.range (m - l.length)).map fun j=>D (l.length+j),?_⟩⟩
  ·by_cases h0:l=[]
   ·exact .inl h0
   ·have hpos:0 < l.length:=by
     rcases l with _|_
     ·exact absurd rfl h0
     ·simp
    obtain⟨c0,_,_,_⟩:=hlp 0 l[0] (List.getElem?_eq_getElem hpos);have ha:a'.add (0*3)=a':=by simp [Addr.add]
    rw [ha] at c0;obtain⟨b,o,spt⟩:=a';have hs:spt=none:=by
     cases spt with
     | none=>rfl
     | some x =>
      simp only [World.cell?] at c0;split at c0 <;> simp at c0
    subst hs;refine .inr ⟨b,o,rfl,World.block_lt_of_cell? W _ c0,fun j q hj=>?_⟩;obtain⟨g0,g1,g2,_⟩:=hlp j q hj;have had:∀ n,(Addr.mk b o none).add n=⟨b,o+n,none⟩:=fun n=>by
     unfold Addr.add;split
     ·rename_i h;subst h;rfl
     ·rfl
    rw [had] at g0 g1 g2;exact⟨g0,by rw [Nat.add_assoc];exact g1,by rw [Nat.add_assoc];exact g2⟩
  ·have hx1:d=_:=congrArg Prod.fst hx;rw [hx1];have:(List.range l.length).map D=l.map (ptD H):=by
    apply List.ext_getElem?;intro j;by_cases hj:j < l.length
    ·obtain⟨_,_,_,g⟩:=hlp j l[j] (List.getElem?_eq_getElem hj);simp [hj,g]
    ·rw [List.getElem?_eq_none (by simp;omega),List.getElem?_eq_none (by simp;omega)]
   simp only [this]
end
theorem xP {H:Type}:∀ l:List (DataW H),l.length≤Rows.uptoBulkAll l
 | []=>by simp
 | d::r=>by
  have h1:=xP r;have h2:1≤Rows.uptoBulk d:=by
   cases d with
   | lit l=>cases l <;> simp [Rows.uptoBulk]
   | nil=>simp [Rows.uptoBulk]
   | ptr d=>simp [Rows.uptoBulk]
   | slice elems spare=>simp [Rows.uptoBulk]
   | agg parts=>simp [Rows.uptoBulk]
   | iface t d=>simp [Rows.uptoBulk]
   | map entries=>simp [Rows.uptoBulk]
   | held h=>simp [Rows.uptoBulk]
  simp only [Rows.uptoBulkAll,List.length_cons];omega
theorem JT {H:Type}{d:DataW H}{l:List (DataW H)} (h:d∈l):Rows.uptoBulk d≤Rows.uptoBulkAll l:=by
 induction l with
 | nil=>cases h
 | cons x r ih =>
  simp only [Rows.uptoBulkAll];cases List.mem_cons.1 h with
  | inl e=>subst e;omega
  | inr e=>have:=ih e;omega
theorem aR {H:Type}{l:List Pt}{d:DataW H}{ds:List (DataW H)} (hk:Rows.uptoSmall H (d::ds)=true) (hl:l≠[]→∃ s,d=.slice (l.map (ptD H)) s) :
  l.length≤1048576∧∀ p∈l,p.w.length≤1048576:=by
 by_cases h0:l=[]
 ·subst h0;exact⟨by simp,fun p hp=>by cases hp⟩
 ·obtain⟨s,rfl⟩:=hl h0;have h:Rows.uptoBulkAll (DataW.slice (l.map (ptD H)) s::ds)≤1048576:=of_decide_eq_true hk;have h1:=xP (l.map (ptD H));simp only [Rows.uptoBulkAll,Rows.uptoBulk,List.length_map] at h h1;refine⟨by omega,fun p hp=>?_⟩;have h2:=JT (List.mem_map_of_mem (f:=ptD H) hp);have h3:p.w.length≤Rows.uptoBulk (ptD H p):=by
   simp only [ptD,Rows.uptoBulk,Rows.uptoBulkAll];omega
  omega
end
namespace Shp
open Grd (Pt Fo)
def pZ:Fo→Nat→List Nat
 | .nil,_=>[]
 | .cons _ k r,o=>o::pZ r (o+1+k.size)
def kF:Fo→Nat→Nat→List Nat
 | .nil,_,_=>[]
 | .cons _ k r,o,x=>if x=o then pZ k (o+1) else if x < o+1+k.size then kF k (o+1) x else kF r (o+1+k.size) x
def eF:Fo→Nat→Nat→Nat
 | .nil,_,_=>0
 | .cons _ k r,o,x=>if x=o then o+1+k.size else if x < o+1+k.size then eF k (o+1) x else eF r (o+1+k.size) x
theorem xZ:∀ (f:Fo) (o:Nat),(pZ f o).length=f.count
 | .nil,_=>rfl
 | .cons _ k r,o=>by simp [pZ,Fo.count,xZ r]
theorem BZ (d:Nat):∀ (f:Fo) (o:Nat),pZ f (o+d)=(pZ f o).map (·+d)
 | .nil,_=>rfl
 | .cons _ k r,o=>by
  simp only [pZ,List.map_cons];rw [show o+d+1+k.size=o+1+k.size+d by omega,BZ d r]
theorem MZ (d:Nat):∀ (f:Fo) (o x:Nat),kF f (o+d) (x+d)=(kF f o x).map (·+d)
 | .nil,_,_=>rfl
 | .cons _ k r,o,x=>by
  simp only [kF];rw [show o+d+1+k.size=o+1+k.size+d by omega,show o+d+1=o+1+d by omega,BZ,MZ d k,MZ d r];by_cases h:x=o
  ·rw [if_pos (by omega),if_pos h]
  ·rw [if_neg (by omega),if_neg h];by_cases h2:x < o+1+k.size
   ·rw [if_pos (by omega),if_pos h2]
   ·rw [if_neg (by omega),if_neg h2]
theorem CZ:∀ (f:Fo) (o y:Nat),y∈pZ f o→o≤y∧y < o+f.size
 | .nil,_,_,h=>by cases h
 | .cons _ k r,o,y,h=>by
  simp only [pZ,List.mem_cons] at h;simp only [Fo.size];rcases h with rfl|h
  ·omega
  ·have:=CZ r _ _ h;omega
theorem wQ0:∀ (f:Fo) (o x y:Nat),o≤x→y∈kF f o x→x < y∧y < o+f.size
 | .nil,_,_,_,_,h=>by cases h
 | .cons _ k r,o,x,y,hx,h=>by
  simp only [kF] at h;simp only [Fo.size];split at h
  ·have:=CZ _ _ _ h;omega
  ·split at h
   ·have:=wQ0 k _ _ _ (by omega) h;omega
   ·have:=wQ0 r _ _ _ (by omega) h;omega
def app:Fo→Fo→Fo
 | .nil,g=>g
 | .cons p k r,g=>.cons p k (app r g)
theorem lQ0:∀ (f g:Fo),(app f g).flat=f.flat++g.flat
 | .nil,_=>rfl
 | .cons p k r,g=>by simp [app,Fo.flat,lQ0 r]
theorem rQ0:∀ (f g:Fo),(app f g).size=f.size+g.size
 | .nil,_=>by simp [app,Fo.size]
 | .cons p k r,g=>by simp [app,Fo.size,rQ0 r];omega
theorem hQ0:∀ (f g:Fo),(app f g).count=f.count+g.count
 | .nil,_=>by simp [app,Fo.count]
 | .cons p k r,g=>by simp [app,Fo.count,hQ0 r];omega
theorem qQ0:∀ (f g:Fo),f.good→g.good→(app f g).good
 | .nil,_,_,h=>h
 | .cons _ _ r,g,h,hg=>⟨h.1,h.2.1,qQ0 r g h.2.2 hg⟩
theorem iQ0:∀ (f g:Fo) (o:Nat),pZ (app f g) o=pZ f o++pZ g (o+f.size)
 | .nil,_,_=>by simp [app,pZ,Fo.size]
 | .cons _ k r,g,o=>by simp only [app,pZ,Fo.size,iQ0 r,List.cons_append];rw [show o+1+k.size+r.size=o+(1+k.size+r.size) by omega]
theorem tQ0:∀ (f g:Fo) (o x:Nat),o≤x→x < o+f.size→kF (app f g) o x=kF f o x
 | .nil,_,o,x,hx,h=>by simp only [Fo.size] at h;omega
 | .cons _ k r,g,o,x,hx,h=>by
  simp only [Fo.size] at h;simp only [app,kF];by_cases h1:x=o
  ·rw [if_pos h1,if_pos h1]
  ·rw [if_neg h1,if_neg h1];by_cases h2:x < o+1+k.size
   ·rw [if_pos h2,if_pos h2]
   ·rw [if_neg h2,if_neg h2,tQ0 r g _ _ (by omega) (by omega)]
theorem uQ0:∀ (f g:Fo) (o x:Nat),o+f.size≤x→kF (app f g) o x=kF g (o+f.size) x
 | .nil,_,_,_,_=>rfl
 | .cons _ k r,g,o,x,h=>by
  simp only [Fo.size] at h;simp only [app,kF];rw [if_neg (by omega),if_neg (by omega),uQ0 r g _ _ (by omega)];simp only [Fo.size];rw [show o+1+k.size+r.size=o+(1+k.size+r.size) by omega]
theorem YZ:∀ (f:Fo) (o x:Nat),f.good→o≤x→x < o+f.size→∃ (p:Pt) (k:Fo) (a b:List Pt),f.flat=a++(p::k.flat)++b∧a.length+o=x∧(k.count:Int)=p.n∧k.good∧x+1+k.size≤o+f.size∧eF f o x=x+1+k.size ∧
  ∀ y,x≤y→y < x+1+k.size→kF f o y=kF (.cons p k .nil) x y
 | .nil,o,x,_,h1,h2=>by simp only [Fo.size] at h2;omega
 | .cons q k r,o,x,h,h1,h2=>by
  simp only [Fo.size] at h2;by_cases hx:x=o
  ·subst hx;refine⟨q,k,[],r.flat,by simp [Fo.flat],by simp,h.1,h.2.1,by simp only [Fo.size];omega,by simp [eF],fun y hy1 hy2=>?_⟩;simp only [kF];by_cases hy:y=x
   ·rw [if_pos hy,if_pos hy]
   ·rw [if_neg hy,if_neg hy,if_pos hy2,if_pos hy2]
  ·by_cases hk:x < o+1+k.size
   ·obtain⟨p,k',a,b,e1,e2,e3,e4,e5,e6,e7⟩:=YZ k (o+1) x h.2.1 (by omega) (by omega);refine⟨p,k',q::a,b++r.flat,by simp [Fo.flat,e1],by simp;omega,e3,e4,by simp only [Fo.size];omega,by simp only [eF];rw [if_neg hx,if_pos hk,e6],fun y hy1 hy2=>?_⟩;rw [← e7 y hy1 hy2];simp only [kF];rw [if_neg (by omega),if_pos (by omega)]
   ·obtain⟨p,k',a,b,e1,e2,e3,e4,e5,e6,e7⟩:=YZ r (o+1+k.size) x h.2.2 (by omega) (by omega);refine⟨p,k',q::(k.flat++a),b,by simp [Fo.flat,e1],by simp [Fo.flat_len];omega,e3,e4,by simp only [Fo.size];omega,by simp only [eF];rw [if_neg hx,if_neg hk,e6],fun y hy1 hy2=>?_⟩;rw [← e7 y hy1 hy2];simp only [kF];rw [if_neg (by omega),if_neg (by omega)]
theorem NZ:∀ (f:Fo) (i:Nat) (r:List Int) (o st:List Nat),f.good→Grd.VB r (i+f.size)=some (o,st) →
  ∃ oF,Grd.VB (f.flat.map Pt.n++r) i=some (oF++o,pZ f i++st)∧oF.length=f.size∧(∀ x,i≤x→x < i+f.size→oF[x - i]?=some (eF f i x)) ∧
   (1≤f.count→(oF++o).getD ((pZ f i).getD (f.count - 1) 0 - i) 0=i+f.size)
 | .nil,i,r,o,st,_,h=>⟨[],by simpa [Fo.flat,pZ,Fo.size] using h,rfl,fun x h1 h2=>by simp only [Fo.size] at h2;omega,fun h=>by simp [Fo.count] at h⟩
 | .cons p k rs,i,r,o,st,hg,h=>by
  obtain⟨g1,g2,g3⟩:=hg;simp only [Fo.size] at h;obtain⟨oR,hR,lR,xR,zR⟩:=NZ rs (i+1+k.size) r o st g3 (by rw [show i+1+k.size+rs.size=i+(1+k.size+rs.size) by omega];exact h);obtain⟨oK,hK,lK,xK,zK⟩:=NZ k (i+1) (rs.flat.map Pt.n++r) _ _ g2 hR;have hlen:=xZ k (i+1);have hend:(if p.n=0 then i+1 else (oK++(oR++o)).getD ((pZ k (i+1)++(pZ rs (i+1+k.size)++st)).getD (p.n.toNat - 1) 0 - (i+1)) 0)=i+1+k.size:=by
   by_cases hz:k.count=0
   ·rw [if_pos (by omega)];cases k with
    | nil=>simp [Fo.size]
    | cons _ _ _=>simp [Fo.count] at hz
   ·rw [if_neg (by omega)];have h2:p.n.toNat=k.count:=by omega
    have h3:=zK (by omega);rw [h2,show (pZ k (i+1)++(pZ rs (i+1+k.size)++st)).getD (k.count - 1) 0=(pZ k (i+1)).getD (k.count - 1) 0 by
     rw [List.getD_eq_getElem?_getD,List.getElem?_append_left (by omega),List.getD_eq_getElem?_getD]]
    exact h3
  have hmain:Grd.VB ((Fo.cons p k rs).flat.map Pt.n++r) i=some ((i+1+k.size)::oK++oR++o,i::pZ rs (i+1+k.size)++st):=by
   simp only [Fo.flat,List.map_cons,List.map_append,List.cons_append,List.append_assoc];rw [Grd.VB,hK];simp only [];rw [if_pos ⟨by omega,by simp [hlen];omega⟩,hend];have h2:p.n.toNat=(pZ k (i+1)).length:=by omega
   rw [h2,List.drop_left]
  refine⟨(i+1+k.size)::oK++oR,by rw [hmain];simp [pZ],by simp [Fo.size,lK,lR];omega,fun x h1 h2=>?_,fun _=>?_⟩
  ·simp only [Fo.size] at h2;simp only [eF];by_cases hx:x=i
   ·subst hx;simp
   ·rw [if_neg hx,List.cons_append,show x - i=(x - (i+1))+1 by omega,List.getElem?_cons_succ];by_cases hk:x < i+1+k.size
    ·rw [if_pos hk,List.getElem?_append_left (by omega)];exact xK x (by omega) hk
    ·rw [if_neg hk,List.getElem?_append_right (by omega),show x - (i+1) - oK.length=x - (i+1+k.size) by omega];exact xR x (by omega) (by omega)
  ·simp only [Fo.count,Fo.size,pZ,Nat.add_sub_cancel];by_cases hz:rs.count=0
   ·have:rs=.nil:=by
     cases rs with
     | nil=>rfl
     | cons _ _ _=>simp [Fo.count] at hz
    subst this;simp [Fo.count,Fo.size];omega
   ·have h3:=zR (by omega);have hro:=xZ rs (i+1+k.size);have hmem:(pZ rs (i+1+k.size)).getD (rs.count - 1) 0∈pZ rs (i+1+k.size):=by
     rw [List.getD_eq_getElem?_getD,List.getElem?_eq_getElem (by omega)];exact List.getElem_mem _
    have hin:=CZ _ _ _ hmem;have e1:(i::pZ rs (i+1+k.size)).getD rs.count 0=(pZ rs (i+1+k.size)).getD (rs.count - 1) 0:=by
     obtain⟨m,hm⟩:∃ m,rs.count=m+1:=⟨rs.count - 1,by omega⟩;rw [hm];simp
    rw [e1];generalize (pZ rs (i+1+k.size)).getD (rs.count - 1) 0=y at *;rw [show y - i=(y - (i+1+k.size))+oK.length+1 by omega];simp only [List.cons_append,List.append_assoc,List.getD_eq_getElem?_getD,List.getElem?_cons_succ] at h3 ⊢;rw [List.getElem?_append_right (by omega),Nat.add_sub_cancel,h3];omega
theorem bQ0 {q:Pt}{k:Fo} (hc:(k.count:Int)=q.n) (hg:k.good):Grd.DG ((q::k.flat).map Pt.n)=true∧∃ o,Grd.VB ((q::k.flat).map Pt.n) 0=some (o,[0])∧o.length=k.size+1∧∀ x,x < k.size+1→o[x]?=some (eF (.cons q k .nil) 0 x):=by
 obtain⟨oF,h1,h2,h3,_⟩:=NZ (.cons q k .nil) 0 [] [] [] ⟨hc,hg,trivial⟩ rfl;have e:(Fo.cons q k .nil).flat.map Pt.n++[]=(q::k.flat).map Pt.n:=by simp [Fo.flat]
 rw [e] at h1;simp only [pZ,List.append_nil] at h1;simp only [Fo.size] at h2 h3;refine⟨by unfold Grd.DG;rw [h1];rfl,oF,h1,by omega,fun x hx=>?_⟩;have:=h3 x (by omega) (by omega);simpa using this
end Shp
namespace Shp
open Grd (Pt Fo)
theorem TZ:∀ (f:Fo) (l:List Pt) (i t:Nat) (r:List Nat),f.good→(∀ m,m < f.size→l[i+m]?=f.flat[m]?)→TF l (bld l i).K (bld l i).op=TF l (bld l i).K (t::r)→t < i →
  ((bld l i).K t).length+(f.count:Int)≤nk l t →
  TF l (bld l (i+f.size)).K (bld l (i+f.size)).op=TF l (bld l (i+f.size)).K (t::r)∧(bld l (i+f.size)).K t=(bld l i).K t++pZ f i ∧
   (∀ x,x < i→x≠t→(bld l (i+f.size)).K x=(bld l i).K x)∧(∀ x,i≤x→x < i+f.size→(bld l (i+f.size)).K x=kF f i x)
 | .nil,l,i,t,r,_,_,hp,_,_=>⟨hp,by simp [pZ,Fo.size],fun _ _ _=>rfl,fun x h1 h2=>by simp only [Fo.size] at h2;omega⟩
 | .cons p k rs,l,i,t,r,hg,hat,hp,ht,hc=>by
  obtain⟨g1,g2,g3⟩:=hg;have hpi:l[i]?=some p:=by have:=hat 0 (by simp [Fo.size];omega);simpa [Fo.flat] using this
  have hni:nk l i=p.n:=by unfold nk;rw [hpi];rfl
  have htf:¬ (((bld l i).K t).length:Int)=nk l t:=by simp only [Fo.count] at hc;omega
  have hpp:TF l (bld l i).K (bld l i).op=t::r:=by rw [hp];unfold TF;rw [if_neg htf]
  have hb1:bld l (i+1)=⟨i::t::r,upd (bld l i).U i (some t),upd (bld l i).T i ((bld l i).K t).length,upd (upd (bld l i).K i []) t ((bld l i).K t++[i])⟩:=by
   show sI l (bld l i) i=_
   unfold sI;rw [hpp]
  have hti:t≠i:=by omega
  have hK1t:(bld l (i+1)).K t=(bld l i).K t++[i]:=by rw [hb1];exact fD _ _ _
  have hK1i:(bld l (i+1)).K i=[]:=by rw [hb1];show upd _ _ _ i=_;rw [EC _ _ (fun h=>hti h.symm),fD]
  have hK1x:∀ x,x < i→x≠t→(bld l (i+1)).K x=(bld l i).K x:=fun x hx hxt=>by rw [hb1];show upd _ _ _ x=_;rw [EC _ _ hxt,EC _ _ (by omega)]
  obtain⟨a1,a2,a3,a4⟩:=TZ k l (i+1) i (t::r) g2 (fun m hm=>by
    have:=hat (1+m) (by simp only [Fo.size];omega);rw [show i+1+m=i+(1+m) by omega,this];simp only [Fo.flat];rw [show 1+m=m+1 by omega,List.getElem?_cons_succ,List.getElem?_append_left (by rw [Fo.flat_len];omega)]) (by rw [hb1]) (by omega) (by rw [hK1i,hni];simp;omega)
  rw [hK1i,List.nil_append] at a2;have hfull:((((bld l (i+1+k.size)).K i).length:Nat):Int)=nk l i:=by rw [a2,xZ,hni];exact g1
  have hpop:TF l (bld l (i+1+k.size)).K (i::t::r)=TF l (bld l (i+1+k.size)).K (t::r):=by rw [TF,if_pos hfull]
  have hKt:=a3 t (by omega) (by omega);obtain⟨b1,b2,b3,b4⟩:=TZ rs l (i+1+k.size) t r g3 (fun m hm=>by
    have:=hat (1+k.size+m) (by simp only [Fo.size];omega);rw [show i+1+k.size+m=i+(1+k.size+m) by omega,this];simp only [Fo.flat];rw [show 1+k.size+m=(k.size+m)+1 by omega,List.getElem?_cons_succ,List.getElem?_append_right (by rw [Fo.flat_len];omega),Fo.flat_len,Nat.add_sub_cancel_left]) (a1.trans hpop) (by omega) (by rw [hKt,hK1t];simp only [Fo.count] at hc;simp;omega)
  simp only [Fo.size];rw [show i+(1+k.size+rs.size)=i+1+k.size+rs.size by omega];refine⟨b1,by rw [b2,hKt,hK1t,pZ,List.append_assoc];rfl,fun x hx hxt=>by rw [b3 x (by omega) hxt,a3 x (by omega) (by omega),hK1x x hx hxt],fun x h1 h2=>?_⟩;simp only [kF];by_cases hx:x=i
  ·subst hx;rw [if_pos rfl,b3 x (by omega) (fun h=>hti h.symm),a2]
  ·rw [if_neg hx];by_cases hk:x < i+1+k.size
   ·rw [if_pos hk,b3 x hk (by omega),a4 x (by omega) hk]
   ·rw [if_neg hk,b4 x (by omega) h2]
theorem vQ0 {l:List Pt}{q:Pt}{k:Fo} (hl:l=q::k.flat) (hc:(k.count:Int)=q.n) (hg:k.good):∀ x,x < l.length→(bld l l.length).K x=kF (.cons q k .nil) 0 x:=by
 have hn:nk l 0=q.n:=by rw [hl];rfl
 have hlen:l.length=1+k.size:=by rw [hl];simp [Fo.flat_len];omega
 obtain⟨a1,a2,a3,a4⟩:=TZ k l 1 0 [] hg (fun m hm=>by rw [hl,show 1+m=m+1 by omega,List.getElem?_cons_succ]) rfl (by omega) (by show (0:Int)+_≤_;omega);intro x hx;rw [hlen];simp only [kF];by_cases h0:x=0
 ·subst h0;rw [if_pos rfl,a2];rfl
 ·rw [if_neg h0,if_pos (by omega),a4 x (by omega) (by omega)]
end Shp
namespace Shp
open Grd (Pt Fo)
structure Cut (l l':List Pt) (K K':Nat→List Nat) (s e d:Nat):Prop where
 at':∀ x,s≤x→x < e→l'[x+d]?=l[x]?
 kid:∀ x,s≤x→x < e→K' (x+d)=(K x).map (·+d)
 inn:∀ x k,s≤x→x < e→k∈K x→s≤k∧k < e
theorem tZ {a b b':Bool} (h:a=true→b=b'):(a&&b)=(a&&b'):=by
 cases a with
 | false=>rfl
 | true=>rw [h rfl]
theorem xQ0 {a b b':Bool} (h:a=false→b=b'):(a||b)=(a||b'):=by
 cases a with
 | true=>rfl
 | false=>rw [h rfl]
theorem zZ {p p':Nat→Bool}{d:Nat}:∀ {L:List Nat},(∀ k∈L,p' (k+d)=p k)→(L.map (·+d)).any p'=L.any p
 | [],_=>rfl
 | x::L,h=>by rw [List.map_cons,List.any_cons,List.any_cons,h x (.head _),zZ (fun k hk=>h k (.tail _ hk))]
theorem eQ0 {p p':Nat→Bool}{d:Nat}:∀ {L:List Nat},(∀ k∈L,p' (k+d)=p k)→(L.map (·+d)).all p'=L.all p
 | [],_=>rfl
 | x::L,h=>by rw [List.map_cons,List.all_cons,List.all_cons,h x (.head _),eQ0 (fun k hk=>h k (.tail _ hk))]
theorem rZ {a:Option UInt8}{b:UInt8} (h:(a==some b)=true):a=some b:=by simpa using h
section
variable {l l':List Pt}{K K':Nat→List Nat}{U U':Nat→Option Nat}{T T':Nat→Nat}{s e d i:Nat}
theorem oZ (hC:Cut l l' K K' s e d) {x:Nat} (h1:s≤x) (h2:x < e):kd l' (x+d)=kd l x:=by unfold kd;rw [hC.at' x h1 h2]
theorem wZ (hC:Cut l l' K K' s e d) {x:Nat} (h1:s≤x) (h2:x < e):wd l' (x+d)=wd l x:=by unfold wd;rw [hC.at' x h1 h2]
theorem uZ (hC:Cut l l' K K' s e d) {x:Nat} (h1:s≤x) (h2:x < e):(K' (x+d)).length=(K x).length:=by rw [hC.kid x h1 h2,List.length_map]
theorem DZ (hC:Cut l l' K K' s e d) {x n:Nat} (h1:s≤x) (h2:x < e) (hn:n < (K x).length):∃ y,(K x).getD n 0=y∧(K' (x+d)).getD n 0=y+d∧s≤y∧y < e:=by
 have h3:=hC.inn x ((K x)[n]) h1 h2 (List.getElem_mem hn);refine⟨(K x)[n],by simp [List.getD_eq_getElem?_getD,hn],?_,h3.1,h3.2⟩;rw [hC.kid x h1 h2];simp [List.getD_eq_getElem?_getD,hn]
theorem sZ (hW:Wf l K U T) {x n:Nat}{k:UInt8} (hk:kd l x=some k) (hn:(n:Int) < (gD k.toNat).1):n < (K x).length:=by
 unfold kd at hk;obtain⟨p,hp,rfl⟩:=Option.map_eq_some_iff.1 hk;have h1:=(hW.ar x p hp).1;have h2:=hW.kids x p hp;omega
theorem qZ (hC:Cut l l' K K' s e d) (hW:Wf l K U T) {x n:Nat}{k:UInt8} (h1:s≤x) (h2:x < e) (hk:kd l x=some k) (hn:(n:Int) < (gD k.toNat).1):∃ y,(K x).getD n 0=y∧(K' (x+d)).getD n 0=y+d∧s≤y∧y < e :=
 DZ hC h1 h2 (sZ hW hk hn)
theorem VZ (hC:Cut l l' K K' s e d) (hW:Wf l K U T):∀ (n f f' x:Nat),s≤x→x < e→e - x≤n→e - x≤f→e - x≤f'→XF l' K' f' (x+d)=XF l K f x+d∧s≤XF l K f x∧XF l K f x < e
 | 0,f,f',x,h1,h2,h3,_,_=>by omega
 | n+1,0,_,x,h1,h2,_,h4,_=>by omega
 | n+1,f+1,0,x,h1,h2,_,_,h5=>by omega
 | n+1,f+1,f'+1,x,h1,h2,h3,h4,h5=>by
  simp only [XF];rw [oZ hC h1 h2];by_cases hk:kd l x=some 28
  ·rw [if_pos hk,if_pos hk];have hn:0 < (K x).length:=sZ hW hk (by decide);have h6:=hC.inn x ((K x)[0]) h1 h2 (List.getElem_mem hn);have h7:=hW.kin x ((K x)[0]) (List.getElem_mem hn);have e1:(K x).getD 0 x=(K x)[0]:=by simp [List.getD_eq_getElem?_getD,hn]
   have e2:(K' (x+d)).getD 0 (x+d)=(K x)[0]+d:=by rw [hC.kid x h1 h2];simp [List.getD_eq_getElem?_getD,hn]
   rw [e1,e2];exact VZ hC hW n f f' _ h6.1 h6.2 (by omega) (by omega) (by omega)
  ·rw [if_neg hk,if_neg hk];exact⟨rfl,h1,h2⟩
theorem RZ (hC:Cut l l' K K' s e d) (hW:Wf l K U T) (he:e≤l.length) (he':e+d≤l'.length) {x:Nat} (h1:s≤x) (h2:x < e) :
  XF l' K' l'.length (x+d)=XF l K l.length x+d∧s≤XF l K l.length x∧XF l K l.length x < e:=VZ hC hW e _ _ x h1 h2 (by omega) (by omega) (by omega)
theorem GZ (hC:Cut l l' K K' s e d) (hW:Wf l K U T) (he:e≤l.length) (he':e+d≤l'.length) {x:Nat} (h1:s≤x) (h2:x < e):MU l' K' (x+d)=MU l K x:=by
 obtain⟨a1,a2,a3⟩:=RZ hC hW he he' h1 h2;unfold MU;rw [a1,oZ hC a2 a3,wZ hC a2 a3]
theorem QZ (hC:Cut l l' K K' s e d) {x:Nat} (h1:s≤x) (h2:x < e):OD l' K' (x+d)=OD l K x:=by
 unfold OD;rw [hC.kid x h1 h2];exact eQ0 fun k hk=>by
  have:=hC.inn x k h1 h2 hk;rw [oZ hC this.1 this.2]
theorem oQ0 (hC:Cut l l' K K' s e d) {x:Nat} (h1:s≤x) (h2:x < e):YM l' (x+d)=YM l x:=by
 unfold YM;rw [oZ hC h1 h2,wZ hC h1 h2]
theorem yZ (hC:Cut l l' K K' s e d) (hW:Wf l K U T) {x:Nat} (h1:s≤x) (h2:x < e):XE l' K' (x+d)=XE l K x:=by
 unfold XE;rw [oZ hC h1 h2];exact tZ fun h=>by
  obtain⟨y,y1,y2,y3,y4⟩:=qZ hC hW (n:=0) h1 h2 (rZ h) (by decide);rw [y1,y2,oZ hC y3 y4]
theorem LZ (hC:Cut l l' K K' s e d) {x:Nat} (h1:s≤x) (h2:x < e):kI l' K' (x+d)=kI l K x:=by
 unfold kI;rw [oZ hC h1 h2,hC.kid x h1 h2];exact tZ fun _=>zZ fun k hk=>by
  have:=hC.inn x k h1 h2 hk;exact oQ0 hC this.1 this.2
theorem fQ0 (hC:Cut l l' K K' s e d) (hW:Wf l K U T) {x:Nat} (h1:s≤x) (h2:x < e):qS l' K' (x+d)=qS l K x:=by
 unfold qS k0;rw [oZ hC h1 h2];exact tZ fun h=>by
  have hn:0 < (K x).length:=by
   rcases Bool.or_eq_true _ _ ▸ h with h|h
   ·exact sZ hW (rZ h) (by decide)
   ·exact sZ hW (rZ h) (by decide)
  obtain⟨y,y1,y2,y3,y4⟩:=DZ hC h1 h2 hn;rw [y1,y2,oZ hC y3 y4]
def UR (l l':List Pt) (U U':Nat→Option Nat) (T T':Nat→Nat) (s e d i:Nat):Prop :=
 (∃ j,s≤j∧j < e∧U i=some j∧U' (i+d)=some (j+d)∧T' (i+d)=T i)∨∃ j j',U i=some j∧U' (i+d)=some j'∧kd l j=some 13∧kd l' j'=some 13
theorem r1 (hC:Cut l l' K K' s e d) (h1:s≤i) (h2:i < e) (hU:UR l l' U U' T T' s e d i):b1 l' U' T' (i+d)=b1 l U T i:=by
 unfold b1 uk;rw [oZ hC h1 h2];rcases hU with ⟨j,j1,j2,u1,u2,u3⟩|⟨j,j',u1,u2,k1,k2⟩
 ·rw [u1,u2,u3,Option.bind_some,Option.bind_some,oZ hC j1 j2]
 ·rw [u1,u2,Option.bind_some,Option.bind_some,k1,k2];rfl
theorem r3 (hC:Cut l l' K K' s e d) (hW:Wf l K U T) (h1:s≤i) (h2:i < e) (hU:UR l l' U U' T T' s e d i):lI l' K' U' T' (i+d)=lI l K U T i:=by
 unfold lI;rw [oZ hC h1 h2];refine tZ fun hk=>?_
 rcases hU with ⟨j,j1,j2,u1,u2,u3⟩|⟨j,j',u1,u2,k1,k2⟩
 ·obtain⟨y,y1,y2,y3,y4⟩:=qZ hC hW (n:=1) h1 h2 (rZ hk) (by decide);rw [u1,u2,u3];simp only [];rw [oZ hC j1 j2,yZ hC hW h1 h2,hC.kid j j1 j2,zZ (p:=XE l K) (fun k hk=>by
    have:=hC.inn j k j1 j2 hk;exact yZ hC hW this.1 this.2),← List.map_drop,zZ (p:=XE l K) (fun k hk=>by
    have:=hC.inn j k j1 j2 (List.mem_of_mem_drop hk);exact yZ hC hW this.1 this.2),y1,y2,oZ hC y3 y4]
 ·rw [u1,u2];simp only [];rw [k1,k2];rfl
theorem r4 (hC:Cut l l' K K' s e d) (h1:s≤i) (h2:i < e) (hU:UR l l' U U' T T' s e d i):b4 l' K' U' T' (i+d)=b4 l K U T i:=by
 unfold b4;rw [oZ hC h1 h2,wZ hC h1 h2];rcases hU with ⟨j,j1,j2,u1,u2,u3⟩|⟨j,j',u1,u2,k1,k2⟩
 ·rw [u1,u2,u3];simp only [];rw [oZ hC j1 j2,uZ hC j1 j2]
 ·rw [u1,u2];simp only [];rw [k1,k2];rfl
theorem r5 (hC:Cut l l' K K' s e d) (hW:Wf l K U T) (h1:s≤i) (h2:i < e):b5 l' K' (i+d)=b5 l K i:=by
 unfold b5 k0;rw [oZ hC h1 h2];refine tZ fun h=>?_
 have hn:0 < (K i).length:=by
  rcases Bool.or_eq_true _ _ ▸ h with h|h
  ·exact sZ hW (rZ h) (by decide)
  ·exact sZ hW (rZ h) (by decide)
 obtain⟨y,y1,y2,y3,y4⟩:=DZ hC h1 h2 hn;rw [y1,y2,oZ hC y3 y4]
theorem r6 (hC:Cut l l' K K' s e d) (hW:Wf l K U T) (h1:s≤i) (h2:i < e):b6 l' K' (i+d)=b6 l K i:=by
 unfold b6 k0;rw [oZ hC h1 h2,wZ hC h1 h2];refine tZ fun h=>?_
 obtain⟨y,y1,y2,y3,y4⟩:=qZ hC hW (n:=0) h1 h2 (rZ h) (by decide);rw [y1,y2,QZ hC y3 y4]
theorem r7 (hC:Cut l l' K K' s e d) (hW:Wf l K U T) (h1:s≤i) (h2:i < e):LK l' K' (i+d)=LK l K i:=by
 unfold LK k0 k1;rw [oZ hC h1 h2,wZ hC h1 h2];refine tZ fun h=>?_
 obtain⟨y,y1,y2,y3,y4⟩:=qZ hC hW (n:=0) h1 h2 (rZ h) (by decide);obtain⟨z,z1,z2,z3,z4⟩:=qZ hC hW (n:=1) h1 h2 (rZ h) (by decide);rw [y1,y2,z1,z2,uZ hC y3 y4,uZ hC z3 z4]
theorem r8 (hC:Cut l l' K K' s e d) (hW:Wf l K U T) (h1:s≤i) (h2:i < e) (hU:UR l l' U U' T T' s e d i):b8 l' K' U' T' (i+d)=b8 l K U T i:=by
 unfold b8 k0;rw [oZ hC h1 h2];refine tZ fun h=>?_
 have hn:0 < (K i).length:=by
  rcases Bool.or_eq_true _ _ ▸ h with h|h
  ·exact sZ hW (rZ h) (by decide)
  ·exact sZ hW (rZ h) (by decide)
 obtain⟨y,y1,y2,y3,y4⟩:=DZ hC h1 h2 hn;rcases hU with ⟨j,j1,j2,u1,u2,u3⟩|⟨j,j',u1,u2,k1,k2⟩
 ·rw [u1,u2,u3];simp only [];rw [oZ hC j1 j2,y1,y2,oZ hC y3 y4,hC.kid j j1 j2,← List.map_take,zZ (p:=qS l K) (fun k hk=>by
    have:=hC.inn j k j1 j2 (List.mem_of_mem_take hk);exact fQ0 hC hW this.1 this.2)]
 ·rw [u1,u2];simp only [];rw [k1,k2];rfl
theorem r9 (hC:Cut l l' K K' s e d) (hW:Wf l K U T) (he:e≤l.length) (he':e+d≤l'.length) (h1:s≤i) (h2:i < e):b9 l' K' (i+d)=b9 l K i:=by
 unfold b9 k0 k1;rw [oZ hC h1 h2];refine tZ fun h=>?_
 obtain⟨y,y1,y2,y3,y4⟩:=qZ hC hW (n:=0) h1 h2 (rZ h) (by decide);rw [y1,y2,oZ hC y3 y4,wZ hC y3 y4];cases ha:(kd l y==some 0||kd l y==some 51) with
 | true=>rfl
 | false =>
  simp only [cond_false];cases hb:kd l y==some 50 with
  | true =>
   simp only [cond_true];obtain⟨z,z1,z2,z3,z4⟩:=qZ hC hW (n:=0) y3 y4 (rZ hb) (by decide);rw [z1,z2,GZ hC hW he he' z3 z4]
  | false =>
   simp only [cond_false];cases hc:kd l y==some 53 with
   | false=>rfl
   | true =>
    simp only [cond_true];obtain⟨z,z1,z2,z3,z4⟩:=qZ hC hW (n:=0) y3 y4 (rZ hc) (by decide);obtain⟨t,t1,t2,t3,t4⟩:=qZ hC hW (n:=1) y3 y4 (rZ hc) (by decide);rw [z1,z2,t1,t2,uZ hC z3 z4,uZ hC t3 t4];refine xQ0 fun _=>xQ0 fun _=>xQ0 fun hl=>?_
    have hl1:(K t).length=1:=by simpa using hl
    obtain⟨v,v1,v2,v3,v4⟩:=DZ hC t3 t4 (n:=0) (by omega);rw [v1,v2,GZ hC hW he he' v3 v4]
theorem r10 (hC:Cut l l' K K' s e d) (hW:Wf l K U T) (h1:s≤i) (h2:i < e):b10 l' K' (i+d)=b10 l K i:=by
 unfold b10 k0 k2;rw [oZ hC h1 h2];refine tZ fun h=>?_
 obtain⟨y,y1,y2,y3,y4⟩:=qZ hC hW (n:=0) h1 h2 (rZ h) (by decide);obtain⟨z,z1,z2,z3,z4⟩:=qZ hC hW (n:=2) h1 h2 (rZ h) (by decide);rw [y1,y2,z1,z2,uZ hC y3 y4,oZ hC y3 y4,oZ hC z3 z4]
theorem r11 (hC:Cut l l' K K' s e d) (hW:Wf l K U T) (he:e≤l.length) (he':e+d≤l'.length) (h1:s≤i) (h2:i < e):b11 l' K' (i+d)=b11 l K i:=by
 unfold b11 k0;rw [oZ hC h1 h2];refine tZ fun h=>?_
 obtain⟨y,y1,y2,y3,y4⟩:=qZ hC hW (n:=0) h1 h2 (rZ h) (by decide);obtain⟨a1,a2,a3⟩:=RZ hC hW he he' y3 y4;rw [y1,y2,a1,oZ hC a2 a3,GZ hC hW he he' y3 y4]
theorem r12 (hC:Cut l l' K K' s e d) (hW:Wf l K U T) (h1:s≤i) (h2:i < e):b12 l' K' (i+d)=b12 l K i:=by
 unfold b12 k0;rw [oZ hC h1 h2,wZ hC h1 h2];refine tZ fun h=>?_
 obtain⟨y,y1,y2,y3,y4⟩:=qZ hC hW (n:=0) h1 h2 (rZ h) (by decide);rw [y1,y2,uZ hC y3 y4,QZ hC y3 y4]
theorem r13 (hC:Cut l l' K K' s e d) (hW:Wf l K U T) (h1:s≤i) (h2:i < e):b13 l' K' (i+d)=b13 l K i:=by
 unfold b13 OP;rw [oZ hC h1 h2,uZ hC h1 h2];refine tZ fun h=>?_
 have hn:0 < (K i).length:=by
  rcases Bool.or_eq_true _ _ ▸ h with h|h
  ·exact sZ hW (rZ h) (by decide)
  ·rcases Bool.or_eq_true _ _ ▸ h with h|h
   ·exact sZ hW (rZ h) (by decide)
   ·exact sZ hW (rZ h) (by decide)
 obtain⟨y,y1,y2,y3,y4⟩:=DZ hC h1 h2 (n:=(K i).length - 1) (by omega);rw [y1,y2,oZ hC y3 y4,wZ hC y3 y4]
theorem r14 (hC:Cut l l' K K' s e d) (hW:Wf l K U T) (h1:s≤i) (h2:i < e) (hU:UR l l' U U' T T' s e d i):b14 l' K' U' T' (i+d)=b14 l K U T i:=by
 unfold b14 k2;rw [oZ hC h1 h2];refine tZ fun h=>?_
 obtain⟨z,z1,z2,z3,z4⟩:=qZ hC hW (n:=2) h1 h2 (rZ h) (by decide);rcases hU with ⟨j,j1,j2,u1,u2,u3⟩|⟨j,j',u1,u2,k1,k2⟩
 ·rw [u1,u2,u3];simp only [];rw [oZ hC j1 j2,wZ hC j1 j2,z1,z2,oZ hC z3 z4]
 ·rw [u1,u2];simp only [];rw [k1,k2];rfl
theorem r15 (hC:Cut l l' K K' s e d) (hW:Wf l K U T) (h1:s≤i) (h2:i < e):b15 l' K' (i+d)=b15 l K i:=by
 unfold b15 k0 k1;rw [oZ hC h1 h2];have ha:(kd l i==some 9&&kI l' K' ((K' (i+d)).getD 1 0))=(kd l i==some 9&&kI l K ((K i).getD 1 0)):=tZ fun h=>by
  obtain⟨y,y1,y2,y3,y4⟩:=qZ hC hW (n:=1) h1 h2 (rZ h) (by decide);rw [y1,y2,LZ hC y3 y4]
 have hb:(kd l i==some 8&&kI l' K' ((K' (i+d)).getD 0 0))=(kd l i==some 8&&kI l K ((K i).getD 0 0)):=tZ fun h=>by
  obtain⟨y,y1,y2,y3,y4⟩:=qZ hC hW (n:=0) h1 h2 (rZ h) (by decide);rw [y1,y2,LZ hC y3 y4]
 rw [ha,hb]
end
theorem nQ0 {l l':List Pt}{s e d i:Nat} (hC:Cut l l' (Kf l) (Kf l') s e d) (hW:Wf l (Kf l) (Uf l) (Tf l)) (he:e≤l.length) (he':e+d≤l'.length) (h1:s≤i) (h2:i < e) (hU:UR l l' (Uf l) (Uf l') (Tf l) (Tf l') s e d i) :
  ∀ r,LP l' (i+d) r=LP l i r
 | 0=>r1 hC h1 h2 hU
 | 1=>by show b2 l' (i+d)=b2 l i;unfold b2;rw [oZ hC h1 h2]
 | 2=>r3 hC hW h1 h2 hU
 | 3=>r4 hC h1 h2 hU
 | 4=>r5 hC hW h1 h2
 | 5=>r6 hC hW h1 h2
 | 6=>r7 hC hW h1 h2
 | 7=>r8 hC hW h1 h2 hU
 | 8=>r9 hC hW he he' h1 h2
 | 9=>r10 hC hW h1 h2
 | 10=>r11 hC hW he he' h1 h2
 | 11=>r12 hC hW h1 h2
 | 12=>r13 hC hW h1 h2
 | 13=>r14 hC hW h1 h2 hU
 | 14=>r15 hC hW h1 h2
 | _+15=>rfl
theorem kQ0 {l l':List Pt}{i d:Nat} (h:∀ r,LP l' (i+d) r=LP l i r) (r:Nat):iB l' (i+d) r=(iB l i r).map fun x=>(x.1,x.2+d):=by
 unfold iB;rw [List.map_map,show LP l' (i+d)=LP l i from funext h]
 rfl
end Shp
namespace Shp
open Grd (Pt Fo)
def flR (l:List Pt) (a n:Nat):List (Nat × Nat):=(List.range' a n).flatMap fun j=>iB l j 15
def sh (d:Nat) (x:Nat × Nat):Nat × Nat:=(x.1,x.2+d)
theorem cQ0 (l:List Pt) (n:Nat):AA l n=flR l 0 n:=by unfold AA flR;rw [List.range_eq_range']
theorem AZ (l:List Pt) (a n m:Nat):flR l a (n+m)=flR l a n++flR l (a+n) m:=by
 unfold flR;rw [← List.flatMap_append,← List.range'_append_1]
theorem aQ0 (l:List Pt) (a:Nat):flR l a 1=iB l a 15:=by simp [flR]
theorem yQ0 {l:List Pt}{i r:Nat}{x:Nat × Nat} (h:x∈iB l i r):x.2=i:=by
 unfold iB at h;obtain⟨k,hk,rfl⟩:=List.mem_map.1 h
 rfl
theorem EZ {l:List Pt}{a n:Nat}{x:Nat × Nat} (h:x∈flR l a n):a≤x.2∧x.2 < a+n:=by
 unfold flR at h;obtain⟨i,hi,hx⟩:=List.mem_flatMap.1 h;have h1:=List.mem_range'_1.1 hi;have h2:=yQ0 hx;omega
theorem dQ0 {l l':List Pt}{d:Nat}:∀ (n a:Nat),(∀ i,a≤i→i < a+n→∀ r,LP l' (i+d) r=LP l i r)→flR l' (a+d) n=(flR l a n).map (sh d)
 | 0,_,_=>rfl
 | n+1,a,h=>by
  rw [show n+1=1+n by omega,AZ,AZ,List.map_append,aQ0,aQ0,kQ0 (h a (by omega) (by omega)),show a+d+1=a+1+d by omega,dQ0 n (a+1) (fun i h1 h2=>h i (by omega) (by omega))]
  rfl
end Shp
namespace Shp
open Grd (Pt Fo)
theorem PZ {α:Type} (a m b:List α):((a++m++b).drop a.length).take m.length=m:=by
 rw [List.append_assoc,List.drop_left,List.take_left]
theorem gQ0 {l:List Pt} (h:fF l=true) (hl:l.length≤1000000000) (hw:∀ p∈l,p.w.length≤1048576) {i:Nat} (hi:i < l.length) :
  ∃ (o:List Nat) (m:Nat),Grd.VB (l.map Pt.n) 0=some (o,[0])∧o[i]?=some (i+m)∧1≤m∧i+m≤l.length∧fF ((l.drop i).take m)=true ∧
   ∃ A0 P0 P1 A2:List (Nat × Nat),AA l l.length=A0++P1.map (sh i)++A2∧AA ((l.drop i).take m) m=P0++P1∧(∀ x∈A0,x.2≤i)∧(∀ x∈P0,x.2=0)∧(∀ x∈P1,1≤x.2∧x.2 < m)∧∀ x∈A2,i+m≤x.2:=by
 have h0:=h;unfold fF at h;rw [Bool.and_eq_true] at h;obtain⟨hwell,hall⟩:=h;obtain⟨q,k,hq,hc,hg⟩:=Grd.VP l hwell;have hlen:l.length=1+k.size:=by rw [hq];simp [Grd.Fo.flat_len];omega
 obtain⟨_,o,ho,hol,hox⟩:=bQ0 hc hg;rw [← hq] at ho;obtain⟨p,k',a,b,e1,e2,e3,e4,e5,e6,e7⟩:=YZ (.cons q k .nil) 0 i ⟨hc,hg,trivial⟩ (by omega) (by simp only [Grd.Fo.size];omega);simp only [Grd.Fo.size] at e5;have hfl:l=a++(p::k'.flat)++b:=by rw [← e1,hq];simp [Grd.Fo.flat]
 have ha:a.length=i:=by omega
 have hm:(p::k'.flat).length=1+k'.size:=by simp [Grd.Fo.flat_len];omega
 have hpart:(l.drop i).take (1+k'.size)=p::k'.flat:=by rw [hfl,← ha,← hm];exact PZ a _ b
 have hsub:∀ x∈p::k'.flat,x∈l:=fun x hx=>by rw [hfl];exact List.mem_append_left _ (List.mem_append_right _ hx)
 have hcp:fF (p::k'.flat)=true:=by
  unfold fF;rw [(bQ0 e3 e4).1,Bool.true_and];exact List.all_eq_true.2 fun x hx=>List.all_eq_true.1 hall x (hsub x hx)
 refine⟨o,1+k'.size,ho,by rw [hox i (by omega),e6];congr 1;omega,by omega,by omega,by rw [hpart];exact hcp,?_⟩;rw [hpart];have hW:=PY h0 hl hw;have hWp:=PY hcp (by omega) (fun x hx=>hw x (hsub x hx));have hCut:Cut (p::k'.flat) l (Kf (p::k'.flat)) (Kf l) 0 (1+k'.size) i:=by
  refine⟨fun x _ hx=>?_,fun x _ hx=>?_,fun x y _ hx hy=>?_⟩
  ·rw [hfl,List.append_assoc,List.getElem?_append_right (by omega),List.getElem?_append_left (by omega),show x+i - a.length=x by omega]
  ·show (bld l l.length).K (x+i)=((bld (p::k'.flat) (p::k'.flat).length).K x).map (·+i)
   rw [vQ0 hq hc hg _ (by omega),vQ0 rfl e3 e4 _ (by omega),e7 _ (by omega) (by omega)];have:=MZ i (.cons p k' .nil) 0 x;rw [Nat.zero_add] at this;exact this
  ·have:=hWp.kin x y hy;omega
 have hrule:∀ x,1≤x→x < 1+k'.size→∀ r,LP l (x+i) r=LP (p::k'.flat) x r:=fun x hx1 hx2=>by
  refine nQ0 hCut hWp (by omega) (by omega) (by omega) hx2 (.inl ?_);cases hu:Uf (p::k'.flat) x with
  | none=>rcases hWp.top x hu with h|h <;> omega
  | some j =>
   obtain⟨u1,u2⟩:=hWp.up x j hu;have u3:=hCut.kid j (by omega) (by omega);have u4:(Kf l (j+i))[Tf (p::k'.flat) x]?=some (x+i):=by rw [u3,List.getElem?_map,u2];rfl
   obtain⟨v1,v2⟩:=hW.nth _ _ _ u4;exact⟨j,by omega,by omega,rfl,v1,v2⟩
 have hP:=dQ0 (l:=p::k'.flat) (l':=l) (d:=i) k'.size 1 (fun x h1 h2=>hrule x h1 h2);refine⟨flR l 0 (i+1),flR (p::k'.flat) 0 1,flR (p::k'.flat) 1 k'.size,flR l (i+1+k'.size) (l.length - (i+1+k'.size)),?_,?_,fun x hx=>?_,fun x hx=>?_,fun x hx=>?_,fun x hx=>?_⟩
 ·rw [← hP,cQ0];have e:l.length=(i+1)+(k'.size+(l.length - (i+1+k'.size))):=by omega
  rw [List.append_assoc,show 1+i=i+1 by omega,← AZ l (i+1) k'.size];have e2:=AZ l 0 (i+1) (k'.size+(l.length - (i+1+k'.size)));rw [Nat.zero_add] at e2;rw [← e2,← e]
 ·rw [cQ0,AZ]
 ·have:=EZ hx;omega
 ·have:=EZ hx;omega
 ·have:=EZ hx;omega
 ·have:=EZ hx;omega
def vZ (P:List (Nat × Nat)):List (Nat × Nat):=P.dropWhile fun x=>x.2==0
theorem IZ:∀ {P0 P1:List (Nat × Nat)},(∀ x∈P0,x.2=0)→vZ (P0++P1)=vZ P1
 | [],_,_=>rfl
 | x::P0,P1,h=>by
  have hx:(x.2==0)=true:=by rw [h x (.head _)];rfl
  show List.dropWhile _ (x::(P0++P1))=_
  rw [List.dropWhile_cons,if_pos hx];exact IZ (fun y hy=>h y (.tail _ hy))
theorem OZ {P:List (Nat × Nat)} (h:∀ x∈P,1≤x.2):vZ P=P:=by
 cases P with
 | nil=>rfl
 | cons x P =>
  have hx:(x.2==0)=false:=by have:=h x (.head _);simp;omega
  unfold vZ;rw [List.dropWhile_cons,if_neg (by rw [hx];decide)]
theorem mQ0 {l:List Pt} (h:fF l=true) (hl:l.length≤1000000000) (hw:∀ p∈l,p.w.length≤1048576) {i:Nat} (hi:i < l.length) :
  ∃ (o:List Nat) (m:Nat) (Q:Nat→List (Nat × Nat)),Grd.VB (l.map Pt.n) 0=some (o,[0])∧o[i]?=some (i+m)∧1≤m∧i+m≤l.length∧fF ((l.drop i).take m)=true ∧
   vZ (AA ((l.drop i).take m) m)=Q 0∧Q (AA l l.length).length=[] ∧
   ∀ n x,(AA l l.length)[n]?=some x→((x.2≤i∨i+m≤x.2)∧Q (n+1)=Q n)∨∃ y,Q n=y::Q (n+1)∧x=(y.1,y.2+i)∧1≤y.2∧y.2 < m∧vZ (Q (n+1))=Q (n+1):=by
 obtain⟨o,m,ho,hoi,hm,him,hc,A0,P0,P1,A2,e1,e2,h1,h2,h3,h4⟩:=gQ0 h hl hw hi;refine⟨o,m,fun n=>P1.drop (n - A0.length),ho,hoi,hm,him,hc,?_,?_,fun n x hx=>?_⟩
 ·rw [e2,IZ h2,OZ (fun x hx=>(h3 x hx).1)]
  show P1=P1.drop (0 - A0.length)
  rw [Nat.zero_sub,List.drop_zero]
 ·apply List.drop_eq_nil_of_le;rw [e1];simp
 ·rw [e1] at hx;by_cases ha:n < A0.length
  ·rw [List.append_assoc,List.getElem?_append_left ha] at hx;refine .inl ⟨.inl (h1 x (List.mem_of_getElem? hx)),?_⟩
   show P1.drop _=P1.drop _
   rw [show n+1 - A0.length=n - A0.length by omega]
  ·rw [List.append_assoc,List.getElem?_append_right (by omega)] at hx;by_cases hb:n - A0.length < P1.length
   ·rw [List.getElem?_append_left (by rw [List.length_map];exact hb),List.getElem?_map] at hx;obtain⟨y,hy,rfl⟩:=Option.map_eq_some_iff.1 hx;have hd:P1.drop (n - A0.length)=y::P1.drop (n+1 - A0.length):=by
     obtain⟨_,rfl⟩:=List.getElem?_eq_some_iff.1 hy;rw [show n+1 - A0.length=n - A0.length+1 by omega];exact List.drop_eq_getElem_cons hb
    have h5:=h3 y (List.mem_of_getElem? hy);exact .inr ⟨y,hd,rfl,h5.1,h5.2,OZ (fun x hx=>(h3 x (List.mem_of_mem_drop hx)).1)⟩
   ·rw [List.getElem?_append_right (by rw [List.length_map];omega)] at hx;refine .inl ⟨.inr (h4 x (List.mem_of_getElem? hx)),?_⟩
    show P1.drop _=P1.drop _
    rw [List.drop_eq_nil_of_le (by omega),List.drop_eq_nil_of_le (by omega)]
end Shp
namespace Shp
open Go.RowKit
open Grd (Pt tB)
variable {w:World}{l:List Pt}
theorem sQ0 {lo n cap j x:Nat}{a:Option Addr}{o:List Nat} (h:w.ownsRow lo 3 1 (.slice a n cap) n (Grd.ivs o)) (hj:o[j]?=some x) (hn:j < n):∃ g,a=some ⟨g,0,none⟩∧w.cell? ⟨g,j,none⟩=some (.int .i64 (x:Int)):=by
 obtain⟨g,hg⟩:∃ g,a=some ⟨g,0,none⟩:=by
  rcases h.2 with ⟨_,hz⟩|⟨g,_,_,hv,_⟩
  ·omega
  ·cases hv;exact⟨g,rfl⟩
 subst hg;have hc:=h.cellAt j (by omega);have e:(Grd.ivs o)[j]?=some (.int .i64 (x:Int)):=by unfold Grd.ivs;rw [List.getElem?_map,hj];rfl
 rw [e] at hc;exact⟨g,rfl,hc⟩
theorem pQ0 (a:Option Addr) (cap:Nat) (i e:Nat) (o:List Nat) (hl:l.length≤1000000000) (h:tB w a l) (hE:Grd.VB (l.map Pt.n) 0=some (o,[0])) (hi:i < l.length) (he:o[i]?=some e) :
  Calls Tryz.prog 18 #[.slice a l.length cap,.int .i64 (i:Int)] w (fun x w'=>x=.returned (.int .i64 (e:Int))∧Below w.heap.size w w'):=by
 have hW:=Grd.QU (w:=w) a cap l (by omega) h;unfold Grd.pU at hW;have hwl:Grd.DG (l.map Pt.n)=true:=by unfold Grd.DG;rw [hE];rfl
 rw [hwl,hE] at hW;have hol:o.length=l.length:=by have:=(Grd.mN _ _ _ _ hE).1;simpa using this
 have HW:=hid hW;have b1:decide ((i:Int) < 0)=false:=by simp
 have b2:decide ((l.length:Int)≤(i:Int))=false:=by simp;omega
 obtain⟨n,hn⟩:∃ n,n=l.length:=⟨_,rfl⟩;rw [← hn] at HW b2 hi hl hol ⊢;have hin:(i:Int) < (n:Int):=by omega
 have ee:0≤(i:Int):=by omega
 have b3:decide (n≤i)=false:=by simp;omega
 have b4:¬ n≤i:=by omega
 clear hW hE hwl h hn;have HO:=hid hol;have HEE:=hid he;clear hol he;go_enter Tryz.func18,Tryz.ntmps18;go_wp2_with fail;refine HW.out.mono ?_;rintro x w1 ⟨hb1,vo,rfl,hown⟩;obtain⟨va,vc,rfl⟩:=Grd.ID hown;rw [HO.out] at *;obtain⟨g,rfl,hce⟩:=sQ0 hown HEE.out hi;clear hown;go_wp2_with fail;go_ret;exact⟨rfl,hb1⟩
theorem ZZ (a:Option Addr) (cap:Nat) (i:Int) (hp:tB w a l) (hl:l.length≤100000000) (hw:∀ p∈l,p.w.length≤1048576) (hT:NC w) (hc:fF l=false) :
  Calls Tryz.prog 8 #[.slice a l.length cap,.int .i64 i] w fun e w'=>e=.returned (.bool true)∧Below w.heap.size w w':=by
 have HF:=hid (WS a cap hp hl hw hT hc);have HX:=hid (fun (w':World) (hb:Below w.heap.size w w')=>tJ (hT.below hb));clear hp hw hT hc;go_enter Tryz.func8,Tryz.ntmps8;go_wp2_with fail;refine HF.out.mono ?_;rintro e w1 ⟨rfl,hb1⟩;go_wp2_with fail;refine (HX.out _ hb1).mono ?_;rintro e w2 ⟨rfl,hb2⟩;have hb12:=dA hb1 hb2;clear hb1 hb2;go_wp2_with fail;refine (HX.out _ hb12).mono ?_;rintro e w3 ⟨rfl,hb3⟩;have hb13:=dA hb12 hb3;go_wp2_with fail;go_ret;exact⟨rfl,hb13⟩
theorem XZ (a:Option Addr) (cap:Nat) (i:Int) (hp:tB w a l) (hl:l.length≤100000000) (hw:∀ p∈l,p.w.length≤1048576) (hT:NC w) (hc:fF l=true) (hg:i < 0∨(l.length:Int)≤i∨3000 < l.length) :
  Calls Tryz.prog 8 #[.slice a l.length cap,.int .i64 i] w fun e w'=>e=.returned (.bool true)∧Below w.heap.size w w':=by
 have HF:=hid (kP a cap hp hl hw hT hc);have HX:=hid (fun (w':World) (hb:Below w.heap.size w w')=>tJ (hT.below hb));clear hp hw hT hc;generalize AA l l.length=FL at *;generalize hn:l.length=n at *;go_enter Tryz.func8,Tryz.ntmps8;go_wp2_with fail;refine HF.out.mono ?_;rintro e w1 ⟨vo,rfl,-,hb1⟩;go_wp2_with fail;refine (HX.out _ hb1).mono ?_;rintro e w2 ⟨rfl,hb2⟩;have HB2:=hid (dA hb1 hb2);clear hb1 hb2;by_cases h1:i < 0
 ·have d1:decide (i < 0)=true:=by simp;omega
  clear hg h1;go_wp2_with fail;refine (HX.out _ HB2.out).mono ?_;rintro e w3 ⟨rfl,hb3⟩;have hb13:=dA HB2.out hb3;go_wp2_with fail;go_ret;exact⟨rfl,hb13⟩
 ·have d1:decide (i < 0)=false:=by simp;omega
  by_cases h2:(n:Int)≤i
  ·have d2:decide ((n:Int)≤i)=true:=by simp;omega
   clear hg h1 h2;go_wp2_with fail;refine (HX.out _ HB2.out).mono ?_;rintro e w3 ⟨rfl,hb3⟩;have hb13:=dA HB2.out hb3;go_wp2_with fail;go_ret;exact⟨rfl,hb13⟩
  ·have d2:decide ((n:Int)≤i)=false:=by simp;omega
   have d3:decide ((3000:Int) < (n:Int))=true:=by simp;omega
   have d4:decide (3000 < n)=true:=by simp;omega
   clear hg h1 h2;go_wp2_with fail;refine (HX.out _ HB2.out).mono ?_;rintro e w3 ⟨rfl,hb3⟩;have hb13:=dA HB2.out hb3;go_wp2_with fail;go_ret;exact⟨rfl,hb13⟩
theorem jQ0 {b off:Nat}{i m:Nat} (hp:∀ j p,l[j]?=some p→w.cell? ⟨b,off+j*3,none⟩=some (.int .u8 (p.k.toNat:Int))∧w.cell? ⟨b,off+j*3+1,none⟩=some (.int .i64 p.n)∧w.cell? ⟨b,off+j*3+2,none⟩=some (.string ⟨p.w.toArray⟩)) (hb:b < w.heap.size) :
  tB w (some ⟨b,off+i*3,none⟩) ((l.drop i).take m):=by
 refine .inr ⟨b,off+i*3,rfl,hb,fun j p hj=>?_⟩;have h1:l[i+j]?=some p:=by
  rw [List.getElem?_take] at hj;split at hj
  ·rwa [List.getElem?_drop] at hj
  ·cases hj
 have h2:=hp (i+j) p h1;rw [show off+(i+j)*3=off+i*3+j*3 by omega] at h2;exact h2
theorem SZ {P R:List (Nat × Nat)}{k:Nat}{x:Nat × Nat} (hk:P[k]?=some x) (h:vZ (P.drop k)=R):(x.2=0∧vZ (P.drop (k+1))=R)∨(x.2≠0∧R=x::P.drop (k+1)):=by
 obtain⟨h1,rfl⟩:=List.getElem?_eq_some_iff.1 hk;rw [List.drop_eq_getElem_cons h1] at h;unfold vZ at h;rw [List.dropWhile_cons] at h;by_cases hz:P[k].2=0
 ·rw [if_pos (by simpa using hz)] at h;exact .inl ⟨hz,h⟩
 ·rw [if_neg (by simpa using hz)] at h;exact .inr ⟨hz,h.symm⟩
theorem UZ (b off cap i:Nat) (hb:b < w.heap.size) (hcap:l.length≤cap) (hpa:∀ j p,l[j]?=some p→w.cell? ⟨b,off+j*3,none⟩=some (.int .u8 (p.k.toNat:Int))∧w.cell? ⟨b,off+j*3+1,none⟩=some (.int .i64 p.n)∧w.cell? ⟨b,off+j*3+2,none⟩=some (.string ⟨p.w.toArray⟩))
  (hl:l.length≤100000000) (hw:∀ p∈l,p.w.length≤1048576) (hT:NC w) (hc:fF l=true) (hi:i < l.length) (h3:l.length≤3000) :
  Calls Tryz.prog 8 #[.slice (some ⟨b,off,none⟩) l.length cap,.int .i64 (i:Int)] w fun e w'=>e=.returned (.bool true)∧Below w.heap.size w w':=by
 have hp:tB w (some ⟨b,off,none⟩) l:=.inr ⟨b,off,rfl,hb,hpa⟩;obtain⟨o,m,Q,ho,hoi,hm,him,hcs,hq0,hqe,hq⟩:=mQ0 hc (by omega) hw hi;have hsub:((l.drop i).take m).length=m:=by rw [List.length_take,List.length_drop];omega
 have HF:=hid (kP _ cap hp hl hw hT hc);have HX:=hid (fun (w':World) (hb:Below w.heap.size w w')=>tJ (hT.below hb));have HE:=hid (fun (w':World) (hb:Below w.heap.size w w')=>pQ0 (some ⟨b,off,none⟩) cap i (i+m) o (by omega) (hp.later hb) ho hi hoi);have HG:Hid (∀ w':World,Below w.heap.size w w'→Calls Tryz.prog 14 #[.slice (some ⟨b,off+i*3,none⟩) m (cap - i)] w' fun e w''=>∃ vo,e=.returned (.tuple #[vo,.int .i64 0])∧w''.ownsRow w'.heap.size 41 2 vo (AA ((l.drop i).take m) m).length (EI (AA ((l.drop i).take m) m))∧Below w'.heap.size w' w''):=hid (fun w' hbw=>by
  have hpw:tB w' (some ⟨b,off+i*3,none⟩) ((l.drop i).take m):=(jQ0 hpa hb).later hbw;have:=kP (w:=w') _ (cap - i) hpw (by rw [hsub];omega) (fun p h=>hw p (List.mem_of_mem_drop (List.mem_of_mem_take h))) (hT.below hbw) hcs;rw [hsub] at this;exact this)
 clear hp hpa hw hT hc ho hoi hcs;have hPl0:(AA ((l.drop i).take m) m).length≤45000:=Nat.le_trans (CY _ m) (by omega);generalize AA ((l.drop i).take m) m=P at *;have HQ:=hid (And.intro hq0 (And.intro hqe hq));have hfl:(AA l l.length).length≤45000:=Nat.le_trans (CY l l.length) (by omega);clear hq0 hqe hq hsub;generalize AA l l.length=F at *;generalize hn:l.length=n at *;have d1:decide ((i:Int) < 0)=false:=by simp
 have d2:decide ((n:Int)≤(i:Int))=false:=by simp;omega
 have d2':decide (n≤i)=false:=by simp;omega
 have d3:decide ((3000:Int) < (n:Int))=false:=by simp;omega
 have d3':decide (3000 < n)=false:=by simp;omega
 obtain⟨en,hen⟩:∃ en,en=i+m:=⟨_,rfl⟩;rw [← hen] at HE HQ him;have hie:i < en:=by omega
 obtain rfl:m=en - i:=by omega
 clear hen hm;have d4:decide ((en:Int)≤(i:Int))=false:=by simp;omega
 have d4':decide (en≤i)=false:=by simp;omega
 have d5:decide ((n:Int) < (en:Int))=false:=by simp;omega
 have d5':decide (n < en)=false:=by simp;omega
 go_enter Tryz.func8,Tryz.ntmps8;go_wp2_with fail;refine HF.out.mono ?_;rintro e w1 ⟨vo,rfl,hown,hb1⟩;obtain⟨oa,oc,rfl⟩:=Grd.ID hown;have HA:=hid (QQ hown);have HB1:=hid hb1;clear hown;go_wp2_with fail;refine (HX.out _ hb1).mono ?_;rintro e w2 ⟨rfl,hb2⟩;have HB12:=hid hb2;have HB2:=hid (dA hb1 hb2);clear hb1 hb2;go_wp2_with fail;refine (HE.out _ HB2.out).mono ?_;rintro e w3 ⟨rfl,hb3⟩;have HB13:=hid (dA HB12.out hb3);have HB3:=hid (dA HB2.out hb3);clear hb3 HB12 HB2;go_upto_region 7 with fail;clear d1 d2 d2' d3 d3' d4 d4' d5 d5';go_wp2_with fail;refine (HG.out _ HB3.out).mono ?_;rintro e w4 ⟨vp,rfl,hownP,hb4⟩;obtain⟨pa,pc,rfl⟩:=Grd.ID hownP;have HPA:Hid (sV w4 pa P):=hid (QQ hownP);have HB14:=hid (dA HB13.out hb4);have HB4:=hid (dA HB3.out hb4);have hPl:P.length≤45000:=hPl0;clear hownP hb4 HB3 HB13 HG HE HF;go_upto_region 11 with fail;go_wp2_with fail
 go_loopw [10,11] (fun v10 v11 w'=>∃ (k j:Nat),v10=.int .i64 (k:Int)∧v11=.int .i64 (j:Int)∧j≤F.length∧k≤P.length∧vZ (P.drop k)=Q j∧Below w4.heap.size w4 w') (fun _ v _=>((F.length:Int) - intOf v).toNat)
 case atStart=>exact⟨0,0,rfl,rfl,by omega,by omega,HQ.out.1,Below.refl _ _⟩
 case round =>
  obtain⟨k,j,rfl,rfl,hj,hk,hs,hbel⟩:=hrel;by_cases hlt:j < F.length
  ·rcases HA.out with h0|⟨fb,foff,rfl,hfb,hfc⟩
   ·subst h0;simp at hlt
   obtain⟨p0,p1⟩:=hfc j F[j] (List.getElem?_eq_getElem hlt);have p0:=zE HB14.out hfb p0;have p1:=zE HB14.out hfb p1;have hfb4:=Nat.lt_of_lt_of_le hfb HB14.out.size;have p0:=zE hbel hfb4 p0;have p1:=zE hbel hfb4 p1;have hqj:=HQ.out.2.2 j F[j] (List.getElem?_eq_getElem hlt);have i0:(0:Int)≤(j:Int):=by omega
   have i1:(j:Int) < (F.length:Int):=by omega
   clear hfc;generalize F[j]=x at *;obtain⟨k1,n1⟩:=x;simp only [] at p0 p1 hqj;rcases hqj with ⟨hout,hqn⟩|⟨y,hy,hxy,hy1,hy2,hsq⟩
   ·have HS:Hid (vZ (P.drop k)=Q (j+1)):=hid (by rw [hqn];exact hs);clear hs hqn p0;by_cases hc1:n1≤i
    ·have d1:decide ((n1:Int)≤(i:Int))=true:=by simp;omega
     have d1':decide (n1≤i)=true:=by simp;omega
     clear hout hc1;go_wp2_with fail;go_roundw
     case rel=>exact⟨k,j+1,rfl,by go_num,by omega,hk,HS.out,hbel⟩
     case measure=>simp only [intOf];first|omega|(go_num;omega)|go_num
    ·have d1:decide ((n1:Int)≤(i:Int))=false:=by simp;omega
     have d1':decide (n1≤i)=false:=by simp;omega
     have d2:decide ((en:Int)≤(n1:Int))=true:=by simp;omega
     have d2':decide (en≤n1)=true:=by simp;omega
     clear hout hc1;go_wp2_with fail;go_roundw
     case rel=>exact⟨k,j+1,rfl,by go_num,by omega,hk,HS.out,hbel⟩
     case measure=>simp only [intOf];first|omega|(go_num;omega)|go_num
   ·obtain⟨k0,n0⟩:=y;simp only [Prod.mk.injEq] at hxy hy1 hy2;obtain⟨rfl,hn1⟩:=hxy;have d1:decide ((n1:Int)≤(i:Int))=false:=by simp;omega
    have d1':decide (n1≤i)=false:=by simp;omega
    have d2:decide ((en:Int)≤(n1:Int))=false:=by simp;omega
    have d2':decide (en≤n1)=false:=by simp;omega
    have z1:IntKind.i64.wrap ((n1:Int) - (i:Int))=(n0:Int):=by
     subst hn1;simp [IntKind.wrap,IntKind.bits,IntKind.signed];omega
    rw [hy] at hs;have HN:=hid (And.intro hn1 (And.intro hy1 (And.intro hsq hs)));have HPF:=hid (And.intro p0 p1);clear hn1 hy1 hy2 hsq hs hy;go_upto_region 15 with fail;clear d1 d1' d2 d2' p0 p1;rcases HPA.out with h0|⟨pb,poff,rfl,hpb,hpc⟩
    ·have h1:=HN.out.2.2.2;rw [h0,List.drop_nil] at h1;cases h1
    have HPC:=hid hpc;have HBE:=hid hbel;clear hpc hbel
    go_loopw [10] (fun v10 w'=>∃ (k:Nat),v10=.int .i64 (k:Int)∧k≤P.length∧vZ (P.drop k)=(k1,n0)::Q (j+1)∧Below w4.heap.size w4 w'∧(w'.cell? ⟨fb,foff+j*2,none⟩=some (.int .u8 (k1:Int))∧w'.cell? ⟨fb,foff+j*2+1,none⟩=some (.int .i64 (n1:Int)))) (fun v _=>((P.length:Int) - intOf v).toNat)
    case atStart=>exact⟨k,rfl,hk,HN.out.2.2.2,HBE.out,HPF.out⟩
    case round =>
     obtain⟨k',rfl,hk',hs',hbel',hpf'⟩:=hrel;have hlk:k' < P.length:=by
      rcases Nat.lt_or_ge k' P.length with h|h
      ·exact h
      ·rw [List.drop_eq_nil_of_le h] at hs';cases hs'
     obtain⟨q0,q1⟩:=HPC.out k' P[k'] (List.getElem?_eq_getElem hlk);have q0:=zE hbel' hpb q0;have q1:=zE hbel' hpb q1;have hst:=SZ (List.getElem?_eq_getElem hlk) hs';have i2:(0:Int)≤(k':Int):=by omega
     have i3:(k':Int) < (P.length:Int):=by omega
     generalize P[k']=z at *;obtain⟨kk,nn⟩:=z;simp only [] at q0 q1 hst;clear hs';rcases hst with ⟨hz,hsn⟩|⟨hz,hsn⟩
     ·subst hz;have HSN:=hid hsn;have HPG:=hid hpf';clear hsn hpf' q0;go_wp2_with fail;go_roundw
      case rel=>exact⟨k'+1,by go_num,by omega,HSN.out,hbel',HPG.out⟩
      case measure=>simp only [intOf];first|omega|(go_num;omega)|go_num
     ·simp only [List.cons.injEq,Prod.mk.injEq] at hsn;obtain⟨⟨rfl,rfl⟩,hsn⟩:=hsn;have e1:((n0:Int)==0)=false:=by simp;omega
      have e1':(n0==0)=false:=by simp;omega
      have e2:((k':Int)==(P.length:Int))=false:=by simp;omega
      have e2':(k'==P.length)=false:=by simp;omega
      obtain⟨p0,p1⟩:=hpf';have HSN:=hid hsn;have HHZ:=hid hz;clear hsn hz;go_upto_region 17 with fail;go_big_quiet (fail);go_wp2_with fail;go_roundw
      case rel=>exact⟨k'+1,j+1,by go_num,by go_num,by omega,by omega,by rw [← HSN.out];exact HN.out.2.2.1.symm ▸ HN.out.2.2.1,Go.below_drewN hbel' _⟩
      case measure=>simp only [intOf];first|omega|(go_num;omega)|go_num
  ·have hjF:j=F.length:=by omega
   subst hjF;rw [HQ.out.2.1] at hs;have HS:=hid hs;have HBE:=hid hbel;clear hs hbel;go_upto_region 20 with fail
   go_loopw [10] (fun v10 w'=>∃ (k:Nat),v10=.int .i64 (k:Int)∧k≤P.length∧vZ (P.drop k)=[]∧Below w4.heap.size w4 w') (fun v _=>((P.length:Int) - intOf v).toNat)
   case atStart=>exact⟨k,rfl,hk,HS.out,HBE.out⟩
   case round =>
    obtain⟨k',rfl,hk',hs',hbel'⟩:=hrel;by_cases hlk:k' < P.length
    ·rcases HPA.out with h0|⟨pb,poff,rfl,hpb,hpc⟩
     ·subst h0;simp at hlk
     obtain⟨q0,q1⟩:=hpc k' P[k'] (List.getElem?_eq_getElem hlk);have q1:=zE hbel' hpb q1;have hst:=SZ (List.getElem?_eq_getElem hlk) hs';have i2:(0:Int)≤(k':Int):=by omega
     have i3:(k':Int) < (P.length:Int):=by omega
     clear hpc q0;generalize P[k']=z at *;obtain⟨kk,nn⟩:=z;simp only [] at q1 hst;clear hs';rcases hst with ⟨hz,hsn⟩|⟨hz,hsn⟩
     ·subst hz;have HSN:=hid hsn;clear hsn;go_wp2_with fail;go_roundw
      case rel=>exact⟨k'+1,by go_num,by omega,HSN.out,hbel'⟩
      case measure=>simp only [intOf];first|omega|(go_num;omega)|go_num
     ·cases hsn
    ·have hkP:k'=P.length:=by omega
     subst hkP;clear hs';go_wp2_with fail;go_ret;exact⟨rfl,dA HB4.out hbel'⟩
theorem WZ (a:Option Addr) (cap:Nat) (i:Int) (hcap:l.length≤cap) (hp:tB w a l) (hl:l.length≤100000000) (hw:∀ p∈l,p.w.length≤1048576) (hT:NC w) :
  Calls Tryz.prog 8 #[.slice a l.length cap,.int .i64 i] w fun e w'=>e=.returned (.bool true)∧Below w.heap.size w w':=by
 cases hc:fF l with
 | false=>exact ZZ a cap i hp hl hw hT hc
 | true =>
  by_cases hg:i < 0∨(l.length:Int)≤i∨3000 < l.length
  ·exact XZ a cap i hp hl hw hT hc hg
  ·obtain⟨k,rfl⟩:=Int.eq_ofNat_of_zero_le (show 0≤i by omega);rcases hp with h0|⟨b,off,rfl,hb,hpa⟩
   ·subst h0;simp at hg
   ·exact UZ b off cap k hb hcap hpa hl hw hT hc (by omega) (by omega)
end Shp
end Go.Proofs.YtcjmpafkcmlhbaaGreatDoor
