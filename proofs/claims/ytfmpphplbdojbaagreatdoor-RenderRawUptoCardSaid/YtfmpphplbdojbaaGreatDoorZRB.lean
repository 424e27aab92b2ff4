import Derived.Test.YtfmpphplbdojbaaGreatDoorZRA
namespace Go.Proofs.YtfmpphplbdojbaaGreatDoor
open Lib(hid)
set_option linter.all false
set_option maxHeartbeats 40000000
set_option maxRecDepth 100000
namespace Rnd
open Go.RowKit
open Grd (Pt Fo tB)
variable {w w':World}
def iQ3 (goal:UInt8) (s:List UInt8):Option (List UInt8):=match tD kE goal s with
 | .ok l t=>if fF (mQ2 s l t)&&(decide ((mQ2 s l t).length≤3000)&&((mQ2 s l t).all fun p=>decide (p.w.length≤1048576))) then some (jQ2 (mQ2 s l t)) else none
 | .bad _ _=>none
theorem fx1:iQ3 3 [105,102,32,120,58,61,102,40,41,59,120,123,97,125]=some [105,102,32,120,32,58,61,32,102,40,41,59,32,120,32,123,10,97,10,125,10]:=by kernel_rfl
theorem fx2:iQ3 2 [45,32,45,120]=some [45,32,45,120]:=by kernel_rfl
theorem bQ3 {goal:UInt8}{s x:List UInt8} (h:iQ3 goal s=some x) (hx:x.length≤65536):∃ l t,tD kE goal s=.ok l t∧(fF (mQ2 s l t)=true∧(jQ2 (mQ2 s l t)).length≤65536)∧jQ2 (mQ2 s l t)=x∧(mQ2 s l t).length≤100000∧∀ p∈mQ2 s l t,p.w.length≤1048576:=by
 unfold iQ3 at h;split at h
 ·rename_i l t hr;split at h
  ·rename_i hc;simp only [Bool.and_eq_true,decide_eq_true_eq,List.all_eq_true] at hc;have he:=Option.some.inj h;exact⟨l,t,hr,⟨hc.1,by rw [he];exact hx⟩,he,by omega,hc.2.2⟩
  ·cases h
 ·cases h
theorem VQ2 {goal:UInt8}{s:List UInt8}{l:List Tk}{t:Tr} (hr:tD kE goal s=.ok l t) (w:World) (hT:NC w):Calls Tryz.prog 17 #[.int .u8 (goal.toNat:Int),.string ⟨s.toArray⟩] w fun e w'=>∃ a c,e=.returned (.tuple #[.slice a (mQ2 s l t).length c,.agg #[.int .i64 0,.int .i64 0]])∧tB w' a (mQ2 s l t)∧Below w.heap.size w w':=by
 have h1:=nV goal s w hT;rw [hr] at h1;refine h1.mono ?_;rintro e w2 ⟨pa,pn,pc,rfl,hq,hb⟩;have q1:w2.ownsRow w.heap.size 46 3 (.slice pa pn pc) (parts ⟨s,l,[]⟩ t).length (CF (parts ⟨s,l,[]⟩ t)):=hq;have e1:pn=(parts ⟨s,l,[]⟩ t).length:=by
  obtain⟨_,_,e⟩:=Grd.ID q1;cases e;rfl
 subst e1;have e2:(parts ⟨s,l,[]⟩ t).length=(mQ2 s l t).length:=by unfold mQ2;rw [List.length_map]
 refine⟨pa,pc,by rw [e2];rfl,qP q1 rfl,hb⟩
theorem yS (a:Option Addr) (cap:Nat) (l:List Pt) (hp:tB w a l) (hl:l.length≤100000) (hw:∀ p∈l,p.w.length≤1048576) (hT:NC w) (hc:fF l=true∧(jQ2 l).length≤65536) :
  Calls Tryz.prog 10 #[.slice a l.length cap] w fun e w'=>e=.returned (.tuple #[.string ⟨(jQ2 l).toArray⟩,.int .i64 0])∧Below w.heap.size w w' :=
 (BQ2 a cap l hp hl hw hT).mono fun e w' ⟨⟨s,er,he,hs⟩,hb⟩=>by
  rw [if_pos hc] at hs;obtain⟨rfl,rfl⟩:=hs;exact⟨he,hb⟩
def TOk (w:World) (e:Ending) (w':World) (L:List Pt):Prop:=∃ a c,e=.returned (.tuple #[.slice a L.length c,.agg #[.int .i64 0,.int .i64 0]])∧tB w' a L∧Below w.heap.size w w'
theorem gQ3 {goal:UInt8}{s x:List UInt8} (h:iQ3 goal s=some x) (hx:x.length≤65536):∃ L:List Pt,(∀ w,NC w→Calls Tryz.prog 17 #[.int .u8 (goal.toNat:Int),.string ⟨s.toArray⟩] w (fun e w'=>TOk w e w' L)) ∧
  ∀ w a c,NC w→tB w a L→Calls Tryz.prog 10 #[.slice a L.length c] w fun e w'=>e=.returned (.tuple #[.string ⟨x.toArray⟩,.int .i64 0])∧Below w.heap.size w w':=by
 obtain⟨l,t,hr,hc,ht,hl,hw⟩:=bQ3 h hx;exact⟨mQ2 s l t,fun w hT=>VQ2 hr w hT,fun w a c hT hp=>by rw [← ht];exact yS a c _ hp hl hw hT hc⟩
theorem FQ2 (hT:NC w):Calls Tryz.prog 9 #[] w (fun e w'=>e=.returned (.bool true)∧Below w.heap.size w w'):=by
 obtain⟨L1,H1,G1⟩:=gQ3 fx1 (by decide);obtain⟨L2,H2,G2⟩:=gQ3 fx2 (by decide);have HT:=hid hT;have HH1:=hid H1;have HG1:=hid G1;have HH2:=hid H2;have HG2:=hid G2;clear hT H1 H2 G1 G2;go_enter Tryz.func9,Tryz.ntmps9;go_wp2_with fail;refine (HH1.out w HT.out).mono ?_;rintro e w2 ⟨a1,c1,rfl,hp1,hb1⟩;go_upto_region 2 with fail;have h2:=heap_alloc_new w2 (Obj.cells #[.int .i64 0,.int .i64 0] 35);have b2:=(Below.refl w2.heap.size w2).alloc (Nat.le_refl _) (Obj.cells #[.int .i64 0,.int .i64 0] 35);have s2:w2.heap.size < (w2.alloc (Obj.cells #[.int .i64 0,.int .i64 0] 35)).heap.size:=by simp
 have HB2:=hid (dA hb1 b2);have HP2:=hid (hp1.later b2);clear b2 hp1 hb1;generalize w2.alloc (Obj.cells #[.int .i64 0,.int .i64 0] 35)=wA at *;go_wp2_with fail;refine (HG1.out _ _ _ (HT.out.below HB2.out) HP2.out).mono ?_;rintro e w3 ⟨rfl,hb3⟩;have h2:=(hb3.block _ s2).trans h2;have l2:=Nat.lt_of_lt_of_le s2 hb3.size;have HB3:=hid (dA HB2.out hb3);clear hb3 s2 HB2;go_wp2_with fail;refine (HH2.out _ (HT.out.below HB3.out)).mono ?_;rintro e w4 ⟨a2,c2,rfl,hp2,hb4⟩;have h2:=(hb4.block _ l2).trans h2;have l3:=Nat.lt_of_lt_of_le l2 hb4.size;have HB4:=hid (dA HB3.out hb4);clear hb4 HB3;go_upto_region 4 with fail;have h4:=heap_alloc_new w4 (Obj.cells #[.int .i64 0,.int .i64 0] 35);have b4:=(Below.refl w4.heap.size w4).alloc (Nat.le_refl _) (Obj.cells #[.int .i64 0,.int .i64 0] 35);have s4:w4.heap.size < (w4.alloc (Obj.cells #[.int .i64 0,.int .i64 0] 35)).heap.size:=by simp
 have h2:=(b4.block _ l3).trans h2;have HB5:=hid (dA HB4.out b4);have HP5:=hid (hp2.later b4);clear b4 hp2 HB4;generalize w4.alloc (Obj.cells #[.int .i64 0,.int .i64 0] 35)=wB at *;go_wp2_with fail;refine (HG2.out _ _ _ (HT.out.below HB5.out) HP5.out).mono ?_;rintro e w5 ⟨rfl,hb6⟩;have h2:=(hb6.block _ (Nat.lt_trans l3 s4)).trans h2;have h4:=(hb6.block _ s4).trans h4;have HB6:=hid (dA HB5.out hb6);clear hb6 HB5;obtain⟨g1,g2,_,_⟩:=YB h2;obtain⟨g3,g4,_,_⟩:=YB h4;clear h2 h4;go_wp2_with fail;go_ret;exact⟨rfl,HB6.out⟩
end Rnd
namespace Rnd
open Go.RowKit
open Grd (Pt Fo tB)
theorem IQ3:∀ (f g:Fo) (a b:List Pt),f.good→g.good→f.count=g.count→f.flat++a=g.flat++b→f=g∧a=b
 | .nil,.nil,_,_,_,_,_,h=>⟨rfl,h⟩
 | .nil,.cons _ _ _,_,_,_,_,h,_=>by simp [Fo.count] at h
 | .cons _ _ _,.nil,_,_,_,_,h,_=>by simp [Fo.count] at h
 | .cons p k r,.cons q k' r',a,b,⟨h1,h2,h3⟩,⟨g1,g2,g3⟩,hc,h=>by
  simp only [Fo.flat,List.cons_append,List.append_assoc,List.cons.injEq] at h;obtain⟨rfl,h⟩:=h;obtain⟨rfl,h5⟩:=IQ3 k k' _ _ h2 g2 (by omega) h;obtain⟨rfl,h6⟩:=IQ3 r r' _ _ h3 g3 (by simpa [Fo.count] using hc) h5;exact⟨rfl,h6⟩
theorem CQ3 {raw raw2:Nat→List UInt8}:∀ (f:Fo) (o:Nat),(∀ x,o≤x→x < o+f.size→raw x=raw2 x)→txF raw f o=txF raw2 f o
 | .nil,_,_=>rfl
 | .cons p k r,o,h=>by
  simp only [Fo.size] at h;simp only [txF];rw [h o (Nat.le_refl _) (by omega),CQ3 k (o+1) (fun x a b=>h x (by omega) (by omega)),CQ3 r (o+1+k.size) (fun x a b=>h x (by omega) (by omega))]
theorem GQ3:∀ (f:Fo) (o o2:Nat),txF (fun _=>[]) f o=txF (fun _=>[]) f o2
 | .nil,_,_=>rfl
 | .cons p k r,o,o2=>by
  simp only [txF,if_true];rw [GQ3 k (o+1) (o2+1),GQ3 r (o+1+k.size) (o2+1+k.size)]
def trF:Fo→Nat→Nat→Fo
 | .nil,_,_=>.nil
 | .cons p k r,o,x=>if x=o then .cons p k .nil else if x < o+1+k.size then trF k (o+1) x else trF r (o+1+k.size) x
theorem LQ3:∀ (f:Fo) (o x:Nat),f.good→o≤x→x < o+f.size→∃ (p:Pt) (k:Fo) (a b:List Pt),trF f o x=.cons p k .nil∧(Fo.cons p k .nil).good∧f.flat=a++((p::k.flat)++b)∧a.length+o=x
 | .nil,o,x,_,h1,h2=>by simp only [Fo.size] at h2;omega
 | .cons p k r,o,x,⟨g1,g2,g3⟩,h1,h2=>by
  simp only [Fo.size] at h2;simp only [trF];by_cases e:x=o
  ·exact⟨p,k,[],r.flat,by rw [if_pos e],⟨g1,g2,trivial⟩,by simp [Fo.flat],by simp [e]⟩
  ·rw [if_neg e];by_cases e2:x < o+1+k.size
   ·rw [if_pos e2];obtain⟨q,m,a,b,h3,h4,h5,h6⟩:=LQ3 k (o+1) x g2 (by omega) (by omega);exact⟨q,m,p::a,b++r.flat,h3,h4,by simp only [Fo.flat,h5];simp,by simp;omega⟩
   ·rw [if_neg e2];obtain⟨q,m,a,b,h3,h4,h5,h6⟩:=LQ3 r (o+1+k.size) x g3 (by omega) (by omega);exact⟨q,m,p::(k.flat++a),b,h3,h4,by simp only [Fo.flat,h5];simp,by simp [Fo.flat_len];omega⟩
theorem JQ3 (i:Nat) (T:List UInt8):∀ (f:Fo) (o:Nat),o≤i→i < o+f.size→(T=[]∨T=tx (txF (fun _=>[]) (trF f o i) 0) 0)→txF (fun j=>if j=i then T else []) f o=txF (fun _=>[]) f o
 | .nil,o,h1,h2,_=>by simp only [Fo.size] at h2;omega
 | .cons p k r,o,h1,h2,h3=>by
  simp only [Fo.size] at h2;simp only [trF] at h3;simp only [txF,if_true];by_cases e:i=o
  ·subst e;rw [if_pos rfl] at h3;rw [if_pos rfl,CQ3 k (i+1) (raw2:=fun _=>[]) (fun x a b=>if_neg (by omega)),CQ3 r (i+1+k.size) (raw2:=fun _=>[]) (fun x a b=>if_neg (by omega))];by_cases hT:T=[]
   ·rw [if_pos hT]
   ·rw [if_neg hT];have h4:=h3.resolve_left hT;simp only [txF,if_true,tx,List.getElem?_cons_zero,Option.map_some,Option.getD_some] at h4;rw [h4,GQ3 k (0+1) (i+1)]
  ·rw [if_neg e] at h3;rw [if_pos (if_neg (fun h=>e h.symm):(if o=i then T else [])=[])];by_cases e2:i < o+1+k.size
   ·rw [if_pos e2] at h3;rw [JQ3 i T k (o+1) (by omega) e2 h3,CQ3 r (o+1+k.size) (raw2:=fun _=>[]) (fun x a b=>if_neg (by omega))]
   ·rw [if_neg e2] at h3;rw [JQ3 i T r (o+1+k.size) (by omega) (by omega) h3,CQ3 k (o+1) (raw2:=fun _=>[]) (fun x a b=>if_neg (by omega))]
def DQ3 (L:Nat):List Int→Nat→Option Nat
 | _,0=>some 0
 | [],_+1=>none
 | k::r,n+1=>if k < 0∨(L:Int) < k then none else (DQ3 L r (n+k.toNat)).map (·+1)
theorem EQ3 (L:Nat):∀ (f:Fo) (rest:List Pt) (n:Nat),f.good→f.size≤L→DQ3 L ((f.flat++rest).map Pt.n) (f.count+n)=(DQ3 L (rest.map Pt.n) n).map (·+f.size)
 | .nil,rest,n,_,_=>by simp only [Fo.flat,Fo.count,Fo.size,List.nil_append,Nat.zero_add];cases DQ3 L (rest.map Pt.n) n <;> rfl
 | .cons p k r,rest,n,⟨h1,h2,h3⟩,hs=>by
  simp only [Fo.size] at hs;have hk:=EQ3 L k (r.flat++rest) (r.count+n) h2 (by omega);have hr:=EQ3 L r rest n h3 (by omega);have hc:k.count≤k.size:=count_le k;have hn:¬ (p.n < 0∨(L:Int) < p.n):=by omega
  have ht:p.n.toNat=k.count:=by omega
  simp only [Fo.flat,List.cons_append,List.append_assoc,List.map_cons,Fo.count];rw [show r.count+1+n=(r.count+n)+1 from by omega,DQ3,if_neg hn,ht,Nat.add_comm (r.count+n) k.count,hk,hr];cases DQ3 L (rest.map Pt.n) n with
  | none=>rfl
  | some x=>simp [Fo.size];omega
def QH (l:List Pt) (i:Nat):Int:=match DQ3 l.length ((l.map Pt.n).drop i) 1 with
 | some c=>((i+c:Nat):Int)
 | none=>-1
theorem QQ3 {l:List Pt} (hc:fF l=true) {i:Nat} (hi:i < l.length):∃ (m:List Pt),QH l i=((i+m.length:Nat):Int)∧i+m.length≤l.length∧0 < m.length∧(l.drop i).take m.length=m∧fF m=true ∧
  ∀ T:List UInt8,(T=[]∨T=jQ2 m)→pQ2 l (fun j=>if j=i then T else [])=jQ2 l:=by
 have hc':Grd.DG (l.map Pt.n)=true∧∀ p∈l,AE p=true:=by simpa [fF] using hc
 obtain⟨h1,h2,h3⟩:=LQ2 hc'.1;have hsz:(foL l).size=l.length:=by rw [← Grd.Fo.flat_len,h1]
 obtain⟨p,k,a,b,e1,e2,e3,e4⟩:=LQ3 (foL l) 0 i h2 (Nat.zero_le _) (by omega);rw [h1] at e3;rw [Nat.add_zero] at e4;have hd:l.drop i=(p::k.flat)++b:=by rw [e3,← e4,List.drop_left]
 have hl:l.length=a.length+((p::k.flat).length+b.length):=by rw [e3];simp;omega
 have hks:(p::k.flat).length=(Fo.cons p k .nil).size:=by simp [Fo.size,Fo.flat_len];omega
 have hfl:(Fo.cons p k .nil).flat=p::k.flat:=by simp [Fo.flat]
 have hcm:fF (p::k.flat)=true:=by
  have:=(Shp.bQ0 e2.1 e2.2.1).1;simp only [fF,Bool.and_eq_true,List.all_eq_true];exact⟨this,fun q hq=>hc'.2 q (by rw [e3];exact List.mem_append_right _ (List.mem_append_left _ hq))⟩
 have hcm':Grd.DG ((p::k.flat).map Pt.n)=true:=(Shp.bQ0 e2.1 e2.2.1).1;obtain⟨m1,m2,m3⟩:=LQ2 hcm';have hfo:foL (p::k.flat)=.cons p k .nil:=(IQ3 _ _ [] [] m2 e2 (by rw [m3];rfl) (by rw [m1,hfl])).1;refine⟨p::k.flat,?_,by omega,by simp,by rw [hd,List.take_left],hcm,fun T hT=>?_⟩
 ·have:=EQ3 l.length (.cons p k .nil) b 0 e2 (by omega);rw [show (Fo.cons p k .nil).count+0=1 from rfl,hfl] at this;unfold QH;rw [← List.map_drop,hd,this,hks];have:DQ3 l.length (b.map Pt.n) 0=some 0:=by cases b.map Pt.n <;> rfl
  rw [this];simp
 ·unfold jQ2 pQ2 at *;rw [JQ3 i T (foL l) 0 (Nat.zero_le _) (by omega) (by rw [e1];rw [hfo] at hT;exact hT)]
end Rnd
namespace Rnd
open Go.RowKit
open Grd (Pt Fo tB)
theorem dE {a b:Int} (h:a=b):Ending.returned (.int .i64 a)=Ending.returned (.int .i64 b):=by rw [h]
def TQ3 (l:List Pt) (i:Nat) (u1 u5:Value):Prop:=∃ (j n:Nat),u1=.int .i64 (j:Int)∧u5=.int .i64 (n:Int)∧j≤i+l.length∧n≤1+3000*j∧i≤j∧(n=0∨j≤l.length∨j=i) ∧
 DQ3 l.length ((l.map Pt.n).drop i) 1=(DQ3 l.length ((l.map Pt.n).drop j) n).map (·+(j - i))
theorem PQ3 (l:List Pt) (j n:Nat) (p:Pt) (hp:l[j]?=some p):DQ3 l.length ((l.map Pt.n).drop j) (n+1)=if p.n < 0∨(l.length:Int) < p.n then none else (DQ3 l.length ((l.map Pt.n).drop (j+1)) (n+p.n.toNat)).map (·+1):=by
 have h1:j < l.length:=by
  rcases Nat.lt_or_ge j l.length with h|h
  ·exact h
  ·rw [List.getElem?_eq_none h] at hp;cases hp
 rw [List.getElem?_eq_getElem h1] at hp;cases hp;rw [List.drop_eq_getElem_cons (by simpa using h1),DQ3,List.getElem_map]
theorem SQ3 (l:List Pt) (j n:Nat) (h:l.length≤j):DQ3 l.length ((l.map Pt.n).drop j) (n+1)=none:=by
 rw [List.drop_of_length_le (by simpa using h)];rfl
theorem FQ3 {l:List Pt}{i j n:Nat} (h:DQ3 l.length ((l.map Pt.n).drop i) 1=(DQ3 l.length ((l.map Pt.n).drop j) n).map (·+(j - i))) (h2:DQ3 l.length ((l.map Pt.n).drop j) n=none):QH l i=-1:=by
 unfold QH;rw [h,h2];rfl
theorem MQ3 (b off cap:Nat) (l:List Pt) (i:Nat) (w:World) (hl:l.length≤3000) (hi:i≤3000)
  (hc:∀ (j:Nat) (p:Pt),l[j]?=some p→w.cell? ⟨b,off+j*3+1,none⟩=some (.int .i64 p.n)) :
  Calls Tryz.prog 15 #[.slice (some ⟨b,off,none⟩) l.length cap,.int .i64 (i:Int)] w fun e w'=>e=.returned (.int .i64 (QH l i))∧Below w.heap.size w w':=by
 have HC:=hid hc;clear hc;go_enter Tryz.func15,Tryz.ntmps15;go_wp2_with fail
 go_loopw [1,5] (fun u1 u5 w'=>TQ3 l i u1 u5∧w'=w) (fun u1 _ _=>((l.length+i:Int)+1 - intOf u1).toNat)
 case atStart=>exact⟨⟨i,1,rfl,rfl,by omega,by omega,by omega,.inr (.inr rfl),by simp⟩,rfl⟩
 case round =>
  obtain⟨⟨j,n,rfl,rfl,hj,hn,hij,hor,heq⟩,rfl⟩:=hrel;have HQ:=hid heq;clear heq;cases n with
  | zero =>
   go_wp2_with fail;go_ret;refine⟨dE ?_,Below.refl _ _⟩;have:DQ3 l.length ((l.map Pt.n).drop j) 0=some 0:=by (cases (l.map Pt.n).drop j <;> rfl)
   unfold QH;rw [HQ.out,this];simp;omega
  | succ n =>
   by_cases hlt:j < l.length
   ·have hcj:=HC.out j l[j] (List.getElem?_eq_getElem hlt);have hst:=PQ3 l j n l[j] (List.getElem?_eq_getElem hlt);generalize l[j].n=k at *;have HST:=hid hst;have j0:(0:Int)≤(j:Int):=by omega
    have j1:(j:Int) < (l.length:Int):=by omega
    clear hst;by_cases hk0:k < 0
    ·have HR:=hid (FQ3 HQ.out (by rw [HST.out,if_pos (.inl hk0)]));go_wp2_with fail;go_ret;exact⟨dE (by rw [HR.out]),Below.refl _ _⟩
    ·by_cases hk1:(l.length:Int) < k
     ·have HR:=hid (FQ3 HQ.out (by rw [HST.out,if_pos (.inr hk1)]));go_wp2_with fail;go_ret;exact⟨dE (by rw [HR.out]),Below.refl _ _⟩
     ·obtain⟨kk,rfl⟩:=Int.eq_ofNat_of_zero_le (show 0≤k by omega);have hnx:DQ3 l.length ((l.map Pt.n).drop i) 1=(DQ3 l.length ((l.map Pt.n).drop (j+1)) (n+kk)).map (·+(j+1 - i)):=by
       rw [HQ.out,HST.out,if_neg (by omega),Int.toNat_natCast];cases DQ3 l.length ((l.map Pt.n).drop (j+1)) (n+kk) with
       | none=>rfl
       | some x=>simp;omega
      have HNX:=hid hnx;clear hnx;go_wp2_with fail;go_roundw
      case rel=>exact⟨⟨j+1,n+kk,by go_num,by go_num,by omega,by omega,by omega,.inr (.inl (by omega)),HNX.out⟩,trivial⟩
      case measure=>simp only [intOf];first|omega|(go_num;omega)|go_num
   ·have hr:=FQ3 HQ.out (SQ3 l j n (by omega));have HR:=hid hr;clear hr;go_wp2_with fail;go_ret;exact⟨dE (by rw [HR.out]),Below.refl _ _⟩
theorem OQ3 {l:List Pt} (h:Grd.DG (l.map Pt.n)=true):QH l 0=(l.length:Int):=by
 obtain⟨h1,h2,h3⟩:=LQ2 h;have hsz:(foL l).size=l.length:=by rw [← Grd.Fo.flat_len,h1]
 have:=EQ3 l.length (foL l) [] 0 h2 (by omega);rw [List.append_nil,h1,h3,hsz] at this;unfold QH;rw [List.drop_zero,this];simp [DQ3]
theorem NQ3 (a:Option Addr) (cap:Nat) (l:List Pt) (w:World) (hl:l.length≤3000) (h:tB w a l) (hwl:Grd.DG (l.map Pt.n)=true) :
  Calls Tryz.prog 14 #[.slice a l.length cap] w fun e w'=>e=.returned (.bool true)∧Below w.heap.size w w':=by
 have h0:l≠[]:=fun e=>by subst e;exact absurd hwl (by decide)
 obtain⟨b,off,rfl,hb,hc⟩:=h.resolve_left h0;have HE:=hid (MQ3 b off cap l 0 w hl (by omega) (fun j p hj=>(hc j p hj).2.1));rw [OQ3 hwl] at HE;have hpos:(0:Int) < (l.length:Int):=by
  have:l.length≠0:=fun e=>h0 (List.eq_nil_of_length_eq_zero e)
  omega
 clear h h0 hc hwl;go_enter Tryz.func14,Tryz.ntmps14;go_wp2_with fail;refine HE.out.mono ?_;rintro e w1 ⟨rfl,hb1⟩;go_wp2_with fail;go_ret;exact⟨rfl,hb1⟩
end Rnd
namespace Rnd
open Go.RowKit
open Grd (Pt Fo tB)
variable {w w':World}
theorem KQ3 (a:Option Addr) (cap:Nat) (l:List Pt) (hp:tB w a l) (hl:l.length≤262144) (hw:∀ p∈l,p.w.length≤1048576) (hT:NC w) :
  Calls Tryz.prog 10 #[.slice a l.length cap] w fun e w'=>(∃ (s:List UInt8) (er:Int),e=.returned (.tuple #[.string ⟨s.toArray⟩,.int .i64 er])∧(if fF l=true∧(jQ2 l).length≤65536 then s=jQ2 l∧er=0 else s=[]∧(er==0)=false))∧Below w.heap.size w w':=by
 refine (nQ3 a cap l hp (by omega) hw hT (fun hc=>?_)).mono fun e w' ⟨he,hb⟩=>⟨?_,hb⟩
 ·have h1:=pQ3 l (fun _=>[]) hc;have h2:=WQ2 l 1048576 hw;rw [MQ2] at h1;have h3:l.length*(1048576+43)≤262144*(1048576+43):=Nat.mul_le_mul_right _ hl;omega
 ·subst he;unfold DQ2;by_cases hc:fF l=true
  ·rw [if_pos hc];unfold AQ2;by_cases hs:65536 < (pQ2 l fun _=>[]).length
   ·rw [if_pos hs,if_pos hs];exact⟨[],2,rfl,by rw [if_neg (fun h=>by have:=h.2;unfold jQ2 at this;omega)];exact⟨rfl,by decide⟩⟩
   ·rw [if_neg hs,if_neg hs];exact⟨_,0,rfl,by rw [if_pos ⟨hc,by unfold jQ2;omega⟩];exact⟨rfl,rfl⟩⟩
  ·rw [if_neg hc];exact⟨[],8,rfl,by rw [if_neg (fun h=>hc h.1)];exact⟨rfl,by decide⟩⟩
theorem RQ3 (a:Option Addr) (cap rcap rb:Nat) (l:List Pt) (raw:Nat→List UInt8) (hp:tB w a l) (hl:l.length≤100000000) (hw:∀ p∈l,p.w.length≤1048576) (hT:NC w) (hc:fF l=true)
  (hrb:rb < w.heap.size) (hr:∀ j,j < l.length→w.cell? ⟨rb,j,none⟩=some (.string ⟨(raw j).toArray⟩)) (ht:(pQ2 l raw).length≤65536) :
  Calls Tryz.prog 12 #[.slice a l.length cap,.slice (some ⟨rb,0,none⟩) l.length rcap] w fun e w'=>e=.returned (.tuple #[.string ⟨(pQ2 l raw).toArray⟩,.int .i64 0])∧Below w.heap.size w w':=by
 have HC:=hid (qF a cap l (by omega) hp hw hT);rw [hc] at HC;have HW:=hid (fun (w1:World) (hb:Below w.heap.size w w1)=>(by
  rcases hp with rfl|⟨lb,lo,rfl,h1,h2⟩
  ·exact absurd hc (by decide)
  ·exact hQ3 (w:=w1) (lc:=cap) (rv:=.slice (some ⟨rb,0,none⟩) l.length rcap) hc hw hl (by have:=hb.size;omega) (fun j p hj=>⟨eQ2 hb h1 (h2 j p hj).1,eQ2 hb h1 (h2 j p hj).2.1,eQ2 hb h1 (h2 j p hj).2.2⟩)
    (.inr ⟨rb,0,rcap,rfl,by have:=hb.size;omega,fun j hj=>by rw [Nat.zero_add];exact eQ2 hb hrb (hr j hj)⟩) (by omega) :
  Calls Tryz.prog 23 #[.slice a l.length cap,.slice (some ⟨rb,0,none⟩) l.length rcap] w1 fun e w'=>e=.returned (AQ2 (pQ2 l raw))∧Below w1.heap.size w1 w'))
 have HO:Hid (AQ2 (pQ2 l raw)=.tuple #[.string ⟨(pQ2 l raw).toArray⟩,.int .i64 0]):=hid (by unfold AQ2;rw [if_neg (by omega),if_neg (by omega)]);rw [HO.out] at HW;clear hp hw hT hc hr ht HO;generalize (pQ2 l raw)=S at *;go_enter Tryz.func12,Tryz.ntmps12;go_wp2_with fail;refine HC.out.mono ?_;rintro e w2 ⟨rfl,hb⟩;simp only [if_true];go_wp2_with fail;refine (HW.out w2 hb).mono ?_;rintro e w3 ⟨rfl,hb3⟩;have hb4:=hid (hb.trans (hb3.mono hb.size));clear hb hb3;go_wp2_with fail;go_ret2;exact⟨rfl,hb4.out⟩
theorem Tryz.infoStr:(Tryz.prog.info? 9).map (fun i=>(i.zero,i.size,i.bytes))=some (some (.string ⟨#[]⟩),1,16):=by kernel_rfl
theorem raw_law (a1:Option Addr) (c1:Nat) (i:Int) {l:List Pt} (hlc:l.length≤c1) (hp:tB w a1 l) (hl:l.length≤262144) (hwl:∀ p∈l,p.w.length≤1048576) (hT:NC w) :
  Calls Tryz.prog 5 #[.slice a1 l.length c1,.int .i64 i] w fun e w'=>e=.returned (.bool true)∧Below w.heap.size w w':=by
 obtain⟨i0,hi,hz0,hz1,hz2⟩:=info_parts Tryz.infoStr;have HT:=hid hT;have HP:=hid hp;have HW:=hid hwl;have HF:=hid (fun (w1:World) (h:Below w.heap.size w w1)=>FQ2 (hT.below h));have HX:=hid (KQ3 a1 c1 l hp hl hwl hT);clear hp hT hwl;go_enter Tryz.func5,Tryz.ntmps5;go_wp2_with fail;refine HX.out.mono ?_;rintro e w2 ⟨⟨s,er,rfl,hs⟩,hb2⟩;have HB2:=hid hb2;have HS:=hid hs;clear hb2 hs HX;go_wp2_with fail;refine (HF.out w2 HB2.out).mono ?_;rintro e w3 ⟨rfl,hb3⟩;have HB3:=hid (dA HB2.out hb3);clear hb3;by_cases hok:fF l=true∧(jQ2 l).length≤65536
 ·have hs:=HS.out;rw [if_pos hok] at hs;obtain⟨rfl,rfl⟩:=hs;clear HS;by_cases hin:0≤i∧i < (l.length:Int)∧l.length≤3000
  ·obtain⟨hi0,hi1,h3⟩:=hin;obtain⟨j,rfl⟩:=Int.eq_ofNat_of_zero_le hi0;have hj:j < l.length:=by omega
   have d1:¬ ((j:Int) < 0):=by omega
   have d2:¬ ((l.length:Int)≤(j:Int)):=by omega
   have d3:¬ ((3000:Int) < (l.length:Int)):=by omega
   obtain⟨m,em,hm1,hm0,hm2,hmc,hmT⟩:=QQ3 hok.1 hj;have hwell:Grd.DG (l.map Pt.n)=true:=by have:=hok.1;simp [fF] at this;exact this.1
   obtain⟨lb,lo,rfl,hlb,hlp⟩:=HP.out.resolve_left (fun e=>by subst e;simp at hj);have HWL:=hid (fun (w1:World) (h:Below w.heap.size w w1)=>NQ3 (some ⟨lb,lo,none⟩) c1 l w1 h3 (HP.out.later h) hwell);have HEN:=hid (fun (w1:World) (h:Below w.heap.size w w1)=>MQ3 lb lo c1 l j w1 h3 (by omega) (fun x p hx=>eQ2 h hlb (hlp x p hx).2.1));rw [em] at HEN;have hPm:tB w (some ⟨lb,lo+j*3,none⟩) m:=.inr ⟨lb,lo+j*3,rfl,hlb,fun x p hx=>by
    rw [← hm2,List.getElem?_take] at hx;split at hx
    ·rw [List.getElem?_drop] at hx;have:=hlp (j+x) p hx;rw [show lo+(j+x)*3=lo+j*3+x*3 by omega] at this;exact this
    ·cases hx⟩
   have hwm:∀ p∈m,p.w.length≤1048576:=fun p hpm=>HW.out p (by rw [← hm2] at hpm;exact List.mem_of_mem_drop (List.mem_of_mem_take hpm))
   have HTM:=hid (fun (w1:World) (h:Below w.heap.size w w1)=>KQ3 (some ⟨lb,lo+j*3,none⟩) (c1 - j) m (hPm.later h) (by omega) hwm (HT.out.below h));have HMX:=hid (fun (w1:World) (h:Below w.heap.size w w1) (T:List UInt8) (rb:Nat) (hT:T=[]∨T=jQ2 m) (hrb:rb < w1.heap.size) (hr:∀ x,x < l.length→w1.cell? ⟨rb,x,none⟩=some (.string ⟨(if x=j then T else []).toArray⟩)) =>
    RQ3 (w:=w1) (some ⟨lb,lo,none⟩) c1 l.length rb l (fun x=>if x=j then T else []) (HP.out.later h) (by omega) HW.out (HT.out.below h) hok.1 hrb hr (by rw [hmT T hT];exact hok.2))
   have HMT:=hid hmT;have HMC:=hid (And.intro hm1 hm0);clear hok hwell hlp hPm hwm hmT hmc em hm2;go_wp2_with fail;refine (HWL.out w3 HB3.out).mono ?_;rintro e w4 ⟨rfl,hb4⟩;have HB4:=hid (dA HB3.out hb4);clear hb4;go_wp2_with (refine wpList_make_full _ rfl _ _ 29 rfl w4.heap.size 9 i0 (.string ⟨#[]⟩) 1 Tryz.underlying29 hi hz0 hz1 .i64 .i64 l.length l.length l.length rfl rfl rfl rfl (by rw [hz2];omega) (by unfold maxLen;omega) (Nat.le_refl _) ?_;intro w5 hown hgrow);have hb5:=(Below.refl w4.heap.size w4).grown hgrow (Nat.le_refl _) (fun k h=>by cases h);have HB5:=hid (dA HB4.out hb5);rw [show (madeCells (Value.string ⟨#[]⟩).cells (l.length*1)).toList=List.replicate l.length (.string ⟨#[]⟩) by rw [show (Value.string ⟨#[]⟩).cells=#[Value.string ⟨#[]⟩] from rfl,toList_madeCells_one];simp] at hown;have HOWN:=hid hown;have hb4s:=(hown.lt _ rfl).2;clear hown hgrow hb5;refine (HEN.out w5 HB5.out).mono ?_;rintro e w6 ⟨rfl,hb6⟩;have HB6:=hid (dA HB5.out hb6);have HOWN6:=hid (qD HOWN.out (Fr.below (X:=[]) hb6) (by simp));have hb6s:=Nat.lt_of_lt_of_le hb4s hb6.size;clear hb6 hb4s HOWN;have HRB0:=hid HB4.out.size;generalize w4.heap.size=rb at *;have m0:(0:Int)≤(j:Int):=by omega
   have m1:(j:Int)≤((j+m.length:Nat):Int):=by omega
   have m2:((j+m.length:Nat):Int)≤(c1:Int):=by have:=HMC.out;omega
   obtain⟨M,hM⟩:∃ M,M=j+m.length:=⟨_,rfl⟩;rw [← hM] at m1 m2 ⊢;have HM:=hid hM;clear hM;go_wp2_with fail;rw [show M - j=m.length by have:=HM.out;omega];refine (HTM.out w6 HB6.out).mono ?_;rintro e w7 ⟨⟨s2,er2,rfl,hs2⟩,hb7⟩;have hT2:s2=[]∨s2=jQ2 m:=by
    split at hs2
    ·exact .inr hs2.1
    ·exact .inl hs2.1
   have HT2:=hid hT2;have HB7:=hid (dA HB6.out hb7);have hown7:=qD HOWN6.out (Fr.below (X:=[]) hb7) (by simp);have hb7s:=Nat.lt_of_lt_of_le hb6s hb7.size;have hfz:=hown7.frozenAt j;have hst:=hown7.stored j (.string ⟨s2.toArray⟩);have HST:=hid hst;have hcj:=hown7.cellAt j (by simpa using hj);rw [List.getElem?_replicate,if_pos hj] at hcj;have HRB:=hid (show w.heap.size≤rb from HRB0.out);clear hb7 hs2 hT2 hown7 hst hb6s HOWN6;go_upto_region 10 with fail;have hr8:∀ x,x < l.length→(w7.setCell ⟨rb,j,none⟩ (.string ⟨s2.toArray⟩)).cell? ⟨rb,x,none⟩=some (.string ⟨(if x=j then s2 else []).toArray⟩):=fun x hx=>by
    rw [HST.out.1.cellAt x (by simpa using hx),List.getElem?_set];simp only [List.length_replicate];by_cases e:j=x
    ·rw [if_pos e,if_pos hj,if_pos e.symm]
    ·rw [if_neg e,if_neg (fun h=>e h.symm),List.getElem?_replicate,if_pos hx]
   have hb8:Below w.heap.size w (w7.setCell ⟨rb,j,none⟩ (.string ⟨s2.toArray⟩)):=HB7.out.grown HST.out.2 HB7.out.size (fun k h=>by cases h;exact HRB.out);have hz8:rb < (w7.setCell ⟨rb,j,none⟩ (.string ⟨s2.toArray⟩)).heap.size:=by simpa using hb7s
   generalize w7.setCell ⟨rb,j,none⟩ (.string ⟨s2.toArray⟩)=w8 at *;have HM8:=hid (HMX.out w8 hb8 s2 rb HT2.out hz8 hr8);have HB8:=hid hb8;have hms:=HMT.out s2 HT2.out;rw [hms] at HM8;clear hr8 hb8 hz8 hcj hfz hb7s hms HST;generalize jQ2 l=S at *;go_wp2_with fail;refine HM8.out.mono ?_;rintro e w9 ⟨rfl,hb9⟩;have hb:=hid (dA HB8.out hb9);clear hb9;go_wp2_with fail;go_ret;exact⟨rfl,hb.out⟩
  ·clear hok;by_cases k1:i < 0
   ·clear hin;go_wp2_with fail;refine (HF.out w3 HB3.out).mono ?_;rintro e w9 ⟨rfl,hb9⟩;have hb:=hid (dA HB3.out hb9);clear hb9;go_wp2_with fail;go_ret;exact⟨rfl,hb.out⟩
   ·by_cases k2:(l.length:Int)≤i
    ·clear hin;go_wp2_with fail;refine (HF.out w3 HB3.out).mono ?_;rintro e w9 ⟨rfl,hb9⟩;have hb:=hid (dA HB3.out hb9);clear hb9;go_wp2_with fail;go_ret;exact⟨rfl,hb.out⟩
    ·have k3:(3000:Int) < (l.length:Int):=by omega
     clear hin;go_wp2_with fail;refine (HF.out w3 HB3.out).mono ?_;rintro e w9 ⟨rfl,hb9⟩;have hb:=hid (dA HB3.out hb9);clear hb9;go_wp2_with fail;go_ret;exact⟨rfl,hb.out⟩
 ·have hs:=HS.out;rw [if_neg hok] at hs;obtain⟨rfl,he⟩:=hs;have he2:(er != 0)=true:=by simpa using he
  clear HS hok;go_wp2_with fail;refine (HF.out w3 HB3.out).mono ?_;rintro e w9 ⟨rfl,hb9⟩;have hb:=hid (dA HB3.out hb9);clear hb9;go_wp2_with fail;go_ret;exact⟨rfl,hb.out⟩
end Rnd
end Go.Proofs.YtfmpphplbdojbaaGreatDoor
