import Derived.Deep.LoopGhost
import Derived.BigQuiet
import Derived.Lib.Hide
import Derived.Test.YtcjmpafkcmlhbaaGreatDoorQBL
import Derived.Test.YtcjmpafkcmlhbaaGreatDoorQAG
import Derived.Test.YtcjmpafkcmlhbaaGreatDoorQBN
namespace Go.Proofs.YtcjmpafkcmlhbaaGreatDoor
open _root_.Go.Lib(hid)
set_option linter.all false
set_option maxHeartbeats 40000000
set_option maxRecDepth 100000
namespace Shp
open Go.RowKit
open Grd (Pt)
def RF (nb:Nat→Nat):Option Nat→Value|none=>.pointer none|some i=>.pointer (some ⟨nb i,0,none⟩)
structure Gr (l:List Pt) (K:Nat→List Nat) (U:Nat→Option Nat) (T:Nat→Nat) (nb:Nat→Nat) (w:World):Prop where
 node:∀ i p,l[i]?=some p→∃ kb cap,w.heap[nb i]?=some (.cells #[.int .u8 (p.k.toNat:Int),.int .i64 p.n,.string ⟨p.w.toArray⟩,.int .i64 (i:Int),RF nb (U i),.int .i64 (T i:Int),.slice kb (K i).length cap] 76 (0,0)) ∧
  (K i).length≤cap∧(K i=[]∨∃ b,kb=some ⟨b,0,none⟩∧b < w.heap.size∧∀ (j k:Nat),(K i)[j]?=some k→w.cell? ⟨b,j,none⟩=some (Value.pointer (some ⟨nb k,0,none⟩)))
variable {w w':World}{l:List Pt}{K:Nat→List Nat}{U:Nat→Option Nat}{T nb:Nat→Nat}
theorem Gr.below (h:Gr l K U T nb w) (hb:Below w.heap.size w w'):Gr l K U T nb w':=⟨fun i p hp=>by
 obtain⟨kb,cap,h1,hc,h2⟩:=h.node i p hp;refine⟨kb,cap,(hb.block _ (RA h1)).trans h1,hc,h2.imp_right fun⟨b,e,hb2,h3⟩=>⟨b,e,Nat.lt_of_lt_of_le hb2 hb.size,fun j k hk=>aA hb (h3 j k hk)⟩⟩⟩
theorem Gr.cells (h:Gr l K U T nb w) {i:Nat}{p:Pt} (hp:l[i]?=some p):∃ kb cap,nb i < w.heap.size∧w.cell? ⟨nb i,0,none⟩=some (.int .u8 (p.k.toNat:Int))∧w.cell? ⟨nb i,1,none⟩=some (.int .i64 p.n)∧w.cell? ⟨nb i,2,none⟩=some (.string ⟨p.w.toArray⟩)∧w.cell? ⟨nb i,3,none⟩=some (.int .i64 (i:Int)) ∧
  w.cell? ⟨nb i,4,none⟩=some (RF nb (U i))∧w.cell? ⟨nb i,5,none⟩=some (.int .i64 (T i:Int))∧w.cell? ⟨nb i,6,none⟩=some (.slice kb (K i).length cap)∧(K i).length≤cap ∧
  (∀ (j k:Nat),(K i)[j]?=some k→∃ b,kb=some ⟨b,0,none⟩∧b < w.heap.size∧w.cell? ⟨b,j,none⟩=some (Value.pointer (some ⟨nb k,0,none⟩))):=by
 obtain⟨kb,cap,h1,hc,h2⟩:=h.node i p hp;refine⟨kb,cap,RA h1,?_,?_,?_,?_,?_,?_,?_,hc,fun j k hk=>?_⟩
 case refine_8 =>
  rcases h2 with h2|⟨b,e,hb,h3⟩
  ·rw [h2] at hk;cases hk
  ·exact⟨b,e,hb,h3 j k hk⟩
 all_goals (unfold World.cell?;rw [h1];rfl)
def KV (w:World) (v:Value) (k:Option UInt8):Prop:=(v=.pointer none∧k=none)∨∃ q x,v=Value.pointer (some ⟨q,0,none⟩)∧k=some x∧w.cell? ⟨q,0,none⟩=some (.int .u8 (x.toNat:Int))
theorem KV.below {v:Value}{k:Option UInt8} (h:KV w v k) (hb:Below w.heap.size w w'):KV w' v k:=h.imp_right fun⟨q,x,h1,h2,h3⟩=>⟨q,x,h1,h2,aA hb h3⟩
theorem Gr.kv (h:Gr l K U T nb w) {i:Nat}{p:Pt} (hp:l[i]?=some p):KV w (Value.pointer (some ⟨nb i,0,none⟩)) (some p.k):=by
 obtain⟨_,_,_,h0,_⟩:=h.cells hp;exact .inr ⟨_,_,rfl,rfl,h0⟩
def isB (k:Option UInt8) (ks:List UInt8):Bool:=match k with|none=>false|some x=>ks.contains x
theorem BO (v:Value) (k:Option UInt8) (b cap:Nat) (ks:List UInt8) (hv:KV w v k) (hl:ks.length≤1000) (hk:∀ (j:Nat) (x:UInt8),ks[j]?=some x→w.cell? ⟨b,j,none⟩=some (.int .u8 (x.toNat:Int))) :
  Calls Tryz.prog 39 #[v,.slice (some ⟨b,0,none⟩) ks.length cap] w fun e w'=>e=.returned (.bool (isB k ks))∧w'=w:=by
 obtain⟨R,hR⟩:∃ R,R=isB k ks:=⟨_,rfl⟩;rw [← hR];have HR:=hid hR;have HK:=hid hk;obtain⟨n,hn⟩:∃ n,n=ks.length:=⟨_,rfl⟩;rw [← hn];have HN:=hid hn;have hn2:n≤1000:=by omega
 clear hk hR hl hn;go_enter Tryz.func39,Tryz.ntmps39;go_wp2_with fail
 go_loopg [6,9] n (fun q v6 v9 wr=>∃ i:Nat,v9=.int .i64 (i:Int)∧i+q=n∧isB k (ks.drop i)=R∧wr=w)
 case atStart=>exact⟨0,rfl,by omega,by rw [List.drop_zero,HR.out],rfl⟩
 case round =>
  obtain⟨i,rfl,hq,hr,hw⟩:=hrel;replace hw:=hw.symm;subst hw;by_cases hi:i < n
  ·obtain⟨x,hx⟩:∃ x,ks[i]?=some x:=⟨_,List.getElem?_eq_getElem (by rw [← HN.out];exact hi)⟩;have hc:=HK.out i x hx;have hd:ks.drop i=x::ks.drop (i+1):=by
    obtain⟨h1,rfl⟩:=List.getElem?_eq_some_iff.1 hx;exact List.drop_eq_getElem_cons h1
   rw [hd] at hr;have i0:(0:Int)≤(i:Int):=by omega
   have i1:(i:Int) < (n:Int):=by omega
   have i2:i < 1000:=by omega
   rcases hv with ⟨rfl,rfl⟩|⟨q,y,rfl,rfl,hy⟩
   ·have hr2:isB none (ks.drop (i+1))=R:=hr;have HR2:=hid hr2;have HQ:=hid hq;clear hr hr2 hd hx hq;go_wp2_with fail;go_roundg (gk - 1)
    case measure=>have:=HQ.out;omega
    case rel=>exact⟨i+1,by simp,by have:=HQ.out;omega,HR2.out,rfl⟩
   ·by_cases hxy:y=x
    ·have e1:(((y.toNat:Nat):Int)==(x.toNat:Int))=true:=by rw [hxy];simp
     have e2:(y.toNat==x.toNat)=true:=by rw [hxy];simp
     have hr2:true=R:=by rw [← hr];simp [isB,hxy]
     have HR2:=hid hr2;clear hr hr2 hd hx hxy HR;go_wp2_with fail;go_ret;exact⟨by rw [← HR2.out];rfl,rfl⟩
    ·have e1:(((y.toNat:Nat):Int)==(x.toNat:Int))=false:=by
      rw [beq_eq_false_iff_ne];intro e;exact hxy (UInt8.toNat_inj.1 (by omega))
     have e2:(y.toNat==x.toNat)=false:=by
      rw [beq_eq_false_iff_ne];intro e;exact hxy (UInt8.toNat_inj.1 e)
     have hr2:isB (some y) (ks.drop (i+1))=R:=by
      rw [← hr];simp only [isB,List.contains_cons];rw [show (y==x)=false from by rw [beq_eq_false_iff_ne];exact hxy];simp
     have HR2:=hid hr2;have HQ:=hid hq;clear hr hr2 hd hx hxy hq;go_wp2_with fail;go_roundg (gk - 1)
     case measure=>have:=HQ.out;omega
     case rel=>exact⟨i+1,by simp,by have:=HQ.out;omega,HR2.out,rfl⟩
  ·have hil:i=n:=by omega
   have hd:ks.drop i=[]:=List.drop_eq_nil_of_le (by rw [← HN.out];omega);have hr2:false=R:=by rw [← hr,hd];cases k <;> rfl
   have HR2:=hid hr2;have i1:decide (i < n)=false:=decide_eq_false hi;clear hr hr2 hd hq hil hi HR;go_wp2_with fail;go_ret;exact⟨by rw [← HR2.out];rfl,rfl⟩
end Shp
section
open Go.RowKit
variable {w:World}
def gD (k:Int):Int × Bool :=
 if k==2||k==4||k==11||k==12||k==13||k==14||k==20||k==23||k==25 then (0,true)
 else if k==10||k==16||k==18 then (1,true)
 else if k==0||k==26||k==27||k==49 then (0,false)
 else if k==3||k==19||k==28||k==33||k==35||k==36||k==42||k==43||k==45||k==46||k==47||k==48||k==50||k==52||k==54||k==55||k==56||k==57||k==58||k==63||k==68 then (1,false)
 else if k==1||k==6||k==7||k==21||k==60||k==66 then (3,false)
 else if k==31||k==59||k==61||k==65 then (4,false)
 else if k==8 then (5,false)
 else (2,false)
theorem xQ (k:Int):Calls Tryz.prog 31 #[.int .u8 k] w (fun e w'=>e=.returned (.tuple #[.int .i64 (gD k).1,.bool (gD k).2])∧w'=w):=by
 have hA:∀ r,gD k=r→gD k=r:=fun _ h=>h
 generalize hr:gD k=r at *;have HR:=hid hr;clear hA hr;go_enter Tryz.func31,Tryz.ntmps31;go_wp2_with fail
 all_goals first|(rename_i h1 h2;exact absurd (h1.symm.trans h2) (by decide))|go_ret2
 all_goals (have h:=HR.out;unfold gD at h;simp only [*,Bool.false_or,Bool.true_or,Bool.or_true,Bool.or_false,if_true,if_false,Bool.false_eq_true,reduceCtorEq] at h;rw [← h];exact⟨rfl,rfl⟩)
end
namespace Shp
open Go.RowKit
open Grd (Pt)
variable {w w':World}{l:List Pt}{K:Nat→List Nat}{U:Nat→Option Nat}{T nb:Nat→Nat}
theorem is1 {v:Value}{k:Option UInt8} (hv:KV w v k) (x:UInt8) {xi:Int} (hx:xi=(x.toNat:Int)) (ty:TypeId) :
  Calls Tryz.prog 39 #[v,.slice (some ⟨w.heap.size,0,none⟩) 1 1] (w.alloc (.cells #[.int .u8 xi] ty (0,0))) fun e w'=>e=.returned (.bool (isB k [x]))∧Below w.heap.size w w':=by
 have hb:=(Below.refl w.heap.size w).alloc (Nat.le_refl _) (.cells #[.int .u8 xi] ty (0,0));have h1:=heap_alloc_new w (.cells #[.int .u8 xi] ty (0,0));refine (BO v k w.heap.size 1 [x] (hv.below hb) (Nat.le_of_ble_eq_true rfl) (fun j y hj=>?_)).mono fun e w' ⟨he,hw⟩=>⟨he,by rw [hw];exact hb⟩
 rcases j with _|j
 ·simp only [List.getElem?_cons_zero,Option.some.injEq] at hj;subst hj;unfold World.cell?;rw [h1,hx];rfl
 ·simp at hj
theorem is2 {v:Value}{k:Option UInt8} (hv:KV w v k) (x y:UInt8) {xi yi:Int} (hx:xi=(x.toNat:Int)) (hy:yi=(y.toNat:Int)) (ty:TypeId) :
  Calls Tryz.prog 39 #[v,.slice (some ⟨w.heap.size,0,none⟩) 2 2] (w.alloc (.cells #[.int .u8 xi,.int .u8 yi] ty (0,0))) fun e w'=>e=.returned (.bool (isB k [x,y]))∧Below w.heap.size w w':=by
 have hb:=(Below.refl w.heap.size w).alloc (Nat.le_refl _) (.cells #[.int .u8 xi,.int .u8 yi] ty (0,0));have h1:=heap_alloc_new w (.cells #[.int .u8 xi,.int .u8 yi] ty (0,0));refine (BO v k w.heap.size 2 [x,y] (hv.below hb) (Nat.le_of_ble_eq_true rfl) (fun j z hj=>?_)).mono fun e w' ⟨he,hw⟩=>⟨he,by rw [hw];exact hb⟩
 rcases j with _|_|j
 ·simp only [List.getElem?_cons_zero,Option.some.injEq] at hj;subst hj;unfold World.cell?;rw [h1,hx];rfl
 ·simp only [Nat.zero_add,List.getElem?_cons_succ,List.getElem?_cons_zero,Option.some.injEq] at hj;subst hj;unfold World.cell?;rw [h1,hy];rfl
 ·simp at hj
theorem is3 {v:Value}{k:Option UInt8} (hv:KV w v k) (x y z:UInt8) {xi yi zi:Int} (hx:xi=(x.toNat:Int)) (hy:yi=(y.toNat:Int)) (hz:zi=(z.toNat:Int)) (ty:TypeId) :
  Calls Tryz.prog 39 #[v,.slice (some ⟨w.heap.size,0,none⟩) 3 3] (w.alloc (.cells #[.int .u8 xi,.int .u8 yi,.int .u8 zi] ty (0,0))) fun e w'=>e=.returned (.bool (isB k [x,y,z]))∧Below w.heap.size w w':=by
 have hb:=(Below.refl w.heap.size w).alloc (Nat.le_refl _) (.cells #[.int .u8 xi,.int .u8 yi,.int .u8 zi] ty (0,0));have h1:=heap_alloc_new w (.cells #[.int .u8 xi,.int .u8 yi,.int .u8 zi] ty (0,0));refine (BO v k w.heap.size 3 [x,y,z] (hv.below hb) (Nat.le_of_ble_eq_true rfl) (fun j u hj=>?_)).mono fun e w' ⟨he,hw⟩=>⟨he,by rw [hw];exact hb⟩
 rcases j with _|_|_|j
 ·simp only [List.getElem?_cons_zero,Option.some.injEq] at hj;subst hj;unfold World.cell?;rw [h1,hx];rfl
 ·simp only [Nat.zero_add,List.getElem?_cons_succ,List.getElem?_cons_zero,Option.some.injEq] at hj;subst hj;unfold World.cell?;rw [h1,hy];rfl
 ·simp only [Nat.zero_add,List.getElem?_cons_succ,List.getElem?_cons_zero,Option.some.injEq] at hj;subst hj;unfold World.cell?;rw [h1,hz];rfl
 ·simp at hj
structure Wf (l:List Pt) (K:Nat→List Nat) (U:Nat→Option Nat) (T:Nat→Nat):Prop where
 len:l.length≤1000000000
 words:∀ (i:Nat) (p:Pt),l[i]?=some p→p.w.length≤1048576
 kids:∀ (i:Nat) (p:Pt),l[i]?=some p→((K i).length:Int)=p.n
 kin:∀ i k,k∈K i→i < k∧k < l.length
 ar:∀ (i:Nat) (p:Pt),l[i]?=some p→(gD p.k.toNat).1≤p.n∧((gD p.k.toNat).2=false→p.n=(gD p.k.toNat).1)
 lit:∀ (i:Nat) (p:Pt),l[i]?=some p→p.k=27→p.w≠[]
 up:∀ i j,U i=some j→j < i∧(K j)[T i]?=some i
 top:∀ i,U i=none→i=0∨l.length≤i
 few:∀ i,(K i).length≤l.length
 nth:∀ i j k,(K j)[i]?=some k→U k=some j∧T k=i
theorem Wf.kid (h:Wf l K U T) {i m:Nat}{p:Pt} (hp:l[i]?=some p) (hm:(m:Int) < (gD p.k.toNat).1):∃ k q,(K i)[m]?=some k∧l[k]?=some q∧i < k∧m < (K i).length:=by
 have h1:=(h.ar i p hp).1;have h2:=h.kids i p hp;have hl:m < (K i).length:=by omega
 have h3:=h.kin i _ (List.getElem_mem hl);exact⟨_,_,List.getElem?_eq_getElem hl,List.getElem?_eq_getElem h3.2,h3.1,hl⟩
theorem Wf.kidAt (h:Wf l K U T) {i m:Nat} (hm:m < (K i).length):∃ k q,(K i)[m]?=some k∧l[k]?=some q∧i < k:=by
 have h3:=h.kin i _ (List.getElem_mem hm);exact⟨_,_,List.getElem?_eq_getElem hm,List.getElem?_eq_getElem h3.2,h3.1⟩
def kd (l:List Pt) (i:Nat):Option UInt8:=(l[i]?).map Pt.k
def wd (l:List Pt) (i:Nat):List UInt8:=((l[i]?).map Pt.w).getD []
def XF (l:List Pt) (K:Nat→List Nat):Nat→Nat→Nat
 | 0,i=>i
 | f+1,i=>if kd l i=some 28 then XF l K f ((K i).getD 0 i) else i
theorem YL (h:Wf l K U T):∀ (f i:Nat),i < l.length→XF l K f i < l.length
 | 0,i,hi=>hi
 | f+1,i,hi=>by
  unfold XF;split
  ·rename_i hk;obtain⟨p,hp⟩:∃ p,l[i]?=some p:=⟨_,List.getElem?_eq_getElem hi⟩;have hk2:p.k=28:=by unfold kd at hk;rw [hp] at hk;simpa using hk
   obtain⟨k,q,h1,h2,_⟩:=h.kid (m:=0) hp (by rw [hk2];decide);rw [List.getD_eq_getElem?_getD,h1];exact YL h f _ (List.getElem?_eq_some_iff.1 h2).1
  ·exact hi
theorem Wf.kind28 (h:Wf l K U T) {i:Nat}{p:Pt} (hp:l[i]?=some p) (hk:p.k=28):∃ k q,(K i)[0]?=some k∧l[k]?=some q∧i < k∧∃ m,(K i).length=m+1:=by
 obtain⟨k,q,h1,h2,h3,h4⟩:=h.kid (m:=0) hp (by rw [hk];decide);exact⟨k,q,h1,h2,h3,(K i).length - 1,by omega⟩
theorem pN (hG:Gr l K U T nb w) (hW:Wf l K U T) (i:Nat) (hi:i < l.length):Calls Tryz.prog 51 #[Value.pointer (some ⟨nb i,0,none⟩)] w fun e w'=>e=.returned (Value.pointer (some ⟨nb (XF l K l.length i),0,none⟩))∧Below w.heap.size w w':=by
 obtain⟨R,hR⟩:∃ R,R=XF l K l.length i:=⟨_,rfl⟩;rw [← hR];have HR:=hid hR;have HG:=hid hG;clear hR hG;go_enter Tryz.func51,Tryz.ntmps51;go_wp2_with fail
 go_loopg [0] l.length (fun q v0 wr=>∃ j:Nat,v0=Value.pointer (some ⟨nb j,0,none⟩)∧l.length≤j+q∧j < l.length∧XF l K q j=R∧Below w.heap.size w wr)
 case atStart=>exact⟨i,rfl,by omega,hi,by rw [HR.out],Below.refl _ _⟩
 case round =>
  obtain⟨j,rfl,hq,hj,hr,hbl⟩:=hrel;obtain⟨p,hp⟩:∃ p,l[j]?=some p:=⟨_,List.getElem?_eq_getElem hj⟩;have hGr:=HG.out.below hbl;have hI:=is1 (hGr.kv hp) 28 (xi:=28) rfl 5;have HGR:=hid hGr;obtain⟨gq,hgq⟩:∃ gq,gk=gq+1:=⟨gk - 1,by omega⟩;rw [hgq] at hr;have HGQ:=hid hgq;by_cases hk:p.k=28
  ·have e1:isB (some p.k) [28]=true:=by rw [hk];rfl
   obtain⟨k,pk,hK0,hpk,hjk,m,hm⟩:=hW.kind28 hp hk;rw [e1] at hI;have hr2:XF l K gq k=R:=by
    unfold XF at hr;rw [if_pos (by unfold kd;rw [hp];simp [hk]),List.getD_eq_getElem?_getD,hK0] at hr;exact hr
   have hkl:=(List.getElem?_eq_some_iff.1 hpk).1;have HP:=hid (And.intro hp (And.intro hK0 (And.intro hr2 (And.intro hq (And.intro hjk hkl)))));have HM:=hid hm;clear hr hr2 hk hp hK0 hpk hjk hkl hm hq e1 hgq;go_wp2_with (refine hI.mono ?_;rintro e w6 ⟨rfl,hb6⟩;obtain⟨kb,cap,c0,_,_,_,_,_,_,c6,hcap,hrow⟩:=(HGR.out.below hb6).cells HP.out.1;obtain⟨b,rfl,hb2,c7⟩:=hrow 0 k HP.out.2.1;rw [HM.out] at c6 hcap;have hbl2:=dA hbl hb6;clear hI hrow hGr hb6);go_roundg gq
   case measure=>have:=HGQ.out;omega
   case rel=>exact⟨k,rfl,by have:=HGQ.out;have:=HP.out.2.2.2.1;have:=HP.out.2.2.2.2.1;omega,HP.out.2.2.2.2.2,HP.out.2.2.1,hbl2⟩
  ·have e1:isB (some p.k) [28]=false:=by
    show List.contains [28] p.k=false
    simp only [List.contains_cons,List.contains_nil,Bool.or_false,beq_eq_false_iff_ne];exact hk
   rw [e1] at hI;have hr2:j=R:=by
    unfold XF at hr;rw [if_neg (by unfold kd;rw [hp];simpa using hk)] at hr;exact hr
   subst hr2;clear hk hr hp hq e1 hgq;go_wp2_with (refine hI.mono ?_;rintro e w6 ⟨rfl,hb6⟩);go_ret;exact⟨rfl,dA hbl hb6⟩
end Shp
namespace Shp
open Go.RowKit
open Grd (Pt)
variable {w w':World}{l:List Pt}{K:Nat→List Nat}{U:Nat→Option Nat}{T nb:Nat→Nat}
theorem qE (x y:UInt8):isB (some x) [y]=(x==y):=by simp only [isB,List.contains_cons,List.contains_nil,Bool.or_false]
theorem oW (x y z:UInt8):isB (some x) [y,z]=(x==y||x==z):=by simp only [isB,List.contains_cons,List.contains_nil,Bool.or_false]
theorem bZ (x y z u:UInt8):isB (some x) [y,z,u]=(x==y||(x==z||x==u)):=by simp only [isB,List.contains_cons,List.contains_nil,Bool.or_false]
theorem zB {i:Nat}{p:Pt} (hp:l[i]?=some p):kd l i=some p.k:=by unfold kd;rw [hp];rfl
theorem QJ {i:Nat}{p:Pt} (hp:l[i]?=some p):wd l i=p.w:=by unfold wd;rw [hp];rfl
theorem CC {i:Nat} (hi:i < l.length):∃ p,l[i]?=some p:=⟨_,List.getElem?_eq_getElem hi⟩
def MU (l:List Pt) (K:Nat→List Nat) (i:Nat):Bool:=kd l (XF l K l.length i)==some 36&&wd l (XF l K l.length i)==[60,45]
theorem UJ (hG:Gr l K U T nb w) (hW:Wf l K U T) (i:Nat) (hi:i < l.length):Calls Tryz.prog 52 #[.pointer (some ⟨nb i,0,none⟩)] w fun e w'=>e=.returned (.bool (MU l K i))∧Below w.heap.size w w':=by
 have hB:=pN hG hW i hi;have hlt:=YL hW l.length i hi;obtain⟨R,hR⟩:∃ R,R=MU l K i:=⟨_,rfl⟩;rw [← hR];unfold MU at hR;generalize XF l K l.length i=j at *;obtain⟨p,hp⟩:=CC hlt;rw [zB hp,QJ hp] at hR;have HR:=hid hR;have HG:=hid hG;have HP:=hid hp;clear hR hG hp hlt hi;go_enter Tryz.func52,Tryz.ntmps52;go_wp2_with fail;refine hB.mono ?_;rintro e w1 ⟨rfl,hb1⟩;have hG1:=HG.out.below hb1;have hI:=is1 (hG1.kv HP.out) 36 (xi:=36) rfl 5;rw [qE] at hI;have HG1:=hid hG1;clear hB hG1;by_cases hk:p.k=36
 ·have e1:(p.k==36)=true:=by rw [hk];rfl
  rw [e1] at hI;have hr:(p.w==[60,45])=R:=by rw [HR.out,hk];rfl
  clear hk e1 HR;go_wp2_with (refine hI.mono ?_;rintro e w2 ⟨rfl,hb2⟩;obtain⟨_,_,_,_,_,c2,_⟩:=(HG1.out.below hb2).cells HP.out;have hb3:=dA hb1 hb2;clear hI hb1 hb2);go_ret;exact⟨by rw [← hr];simp,hb3⟩
 ·have e1:(p.k==36)=false:=by rw [beq_eq_false_iff_ne];exact hk
  rw [e1] at hI;have hr:false=R:=by
   rw [HR.out,show (some p.k==some 36)=(p.k==36) from rfl,e1];rfl
  subst hr;clear hk e1 HR;go_wp2_with (refine hI.mono ?_;rintro e w2 ⟨rfl,hb2⟩;have hb3:=dA hb1 hb2;clear hI hb1 hb2);go_ret;exact⟨rfl,hb3⟩
def OD (l:List Pt) (K:Nat→List Nat) (i:Nat):Bool:=(K i).all fun k=>kd l k==some 26
theorem lF {ks:List Nat}{j k:Nat} (h:ks[j]?=some k):ks.drop j=k::ks.drop (j+1):=by
 obtain⟨h1,rfl⟩:=List.getElem?_eq_some_iff.1 h;exact List.drop_eq_getElem_cons h1
theorem ZG (hG:Gr l K U T nb w) (hW:Wf l K U T) (i:Nat) (hi:i < l.length):Calls Tryz.prog 45 #[.pointer (some ⟨nb i,0,none⟩)] w fun e w'=>e=.returned (.bool (OD l K i))∧Below w.heap.size w w':=by
 obtain⟨p,hp⟩:=CC hi;obtain⟨kb,cap,c0,_,_,_,_,_,_,c6,hcap,hrow⟩:=hG.cells hp;obtain⟨R,hR⟩:∃ R,R=OD l K i:=⟨_,rfl⟩;rw [← hR];have HR:=hid hR;have HG:=hid hG;have HROW:=hid hrow;obtain⟨n,hn⟩:∃ n,n=(K i).length:=⟨_,rfl⟩;rw [← hn] at c6 hcap;have HN:=hid hn;have hn2:n≤1000000000:=by
  have h1:=hW.kids i p hp;have h2:=hW.few i;have:=hW.len;omega
 clear hR hG hrow hn hp;go_enter Tryz.func45,Tryz.ntmps45;go_wp2_with fail
 go_loopg [4,10] n (fun q v4 v10 wr=>∃ j:Nat,v10=.int .i64 (j:Int)∧j+q=n∧((K i).drop j).all (fun k=>kd l k==some 26)=R∧Below w.heap.size w wr)
 case atStart=>exact⟨0,rfl,by omega,by rw [List.drop_zero,HR.out];rfl,Below.refl _ _⟩
 case round =>
  obtain⟨j,rfl,hq,hr,hbl⟩:=hrel;by_cases hj:j < n
  ·obtain⟨k,q,hk,hqk,_⟩:=hW.kidAt (i:=i) (m:=j) (by rw [← HN.out];exact hj);obtain⟨b,rfl,hb2,c7⟩:=HROW.out j k hk;have c7:=mD hbl hb2 c7;rw [lF hk,List.all_cons,zB hqk] at hr;have hGr:=HG.out.below hbl;have hI:=is1 (hGr.kv hqk) 26 (xi:=26) rfl 5;rw [qE] at hI;have HQ:=hid hq;have j0:(0:Int)≤(j:Int):=by omega
   have j1:(j:Int) < (n:Int):=by omega
   have j2:j < 1000000000:=by omega
   have j3:decide (j < n)=true:=decide_eq_true hj;by_cases hk2:q.k=26
   ·have e1:(q.k==26)=true:=by rw [hk2];rfl
    rw [e1] at hI;have hr2:((K i).drop (j+1)).all (fun k=>kd l k==some 26)=R:=by rw [← hr,show (some q.k==some 26)=(q.k==26) from rfl,e1,Bool.true_and]
    have HR2:=hid hr2;clear hr hr2 hk hqk hq hGr hk2 e1;go_wp2_with (refine hI.mono ?_;rintro e w6 ⟨rfl,hb6⟩;have hbl2:=dA hbl hb6;clear hI hb6);go_roundg (gk - 1)
    case measure=>have:=HQ.out;omega
    case rel=>exact⟨j+1,by simp,by have:=HQ.out;omega,HR2.out,hbl2⟩
   ·have e1:(q.k==26)=false:=by rw [beq_eq_false_iff_ne];exact hk2
    rw [e1] at hI;have hr2:false=R:=by rw [← hr,show (some q.k==some 26)=(q.k==26) from rfl,e1,Bool.false_and]
    have HR2:=hid hr2;clear hr hr2 hk hqk hq hGr hk2 e1;go_wp2_with (refine hI.mono ?_;rintro e w6 ⟨rfl,hb6⟩;have hbl2:=dA hbl hb6;clear hI hb6);go_ret;exact⟨by rw [← HR2.out];rfl,hbl2⟩
  ·have hd:(K i).drop j=[]:=List.drop_eq_nil_of_le (by rw [← HN.out];omega);have hr2:true=R:=by rw [← hr,hd];rfl
   have HR2:=hid hr2;have j3:decide (j < n)=false:=decide_eq_false hj;clear hr hr2 hd hq hj;go_wp2_with fail;go_ret;exact⟨by rw [← HR2.out];rfl,hbl⟩
end Shp
namespace Shp
open Go.RowKit
open Grd (Pt)
variable {w w':World}{l:List Pt}{K:Nat→List Nat}{U:Nat→Option Nat}{T nb:Nat→Nat}
theorem yA (x y:UInt8):(some x==some y)=(x==y):=rfl
def YM (l:List Pt) (k:Nat):Bool:=kd l k==some 15&&wd l k != []
theorem VS (hG:Gr l K U T nb w) (i:Nat) (hi:i < l.length):Calls Tryz.prog 89 #[.pointer (some ⟨nb i,0,none⟩)] w fun e w'=>e=.returned (.bool (YM l i))∧Below w.heap.size w w':=by
 obtain⟨p,hp⟩:=CC hi;obtain⟨R,hR⟩:∃ R,R=YM l i:=⟨_,rfl⟩;rw [← hR];unfold YM at hR;rw [zB hp,QJ hp,yA] at hR;have hI:=is1 (hG.kv hp) 15 (xi:=15) rfl 5;rw [qE] at hI;have HR:=hid hR;have HG:=hid hG;have HP:=hid hp;clear hR hG hp hi;go_enter Tryz.func89,Tryz.ntmps89;by_cases hk:p.k=15
 ·have e1:(p.k==15)=true:=by rw [hk];rfl
  rw [e1] at hI;have hr:(p.w != [])=R:=by rw [HR.out,hk];rfl
  clear hk e1 HR;go_wp2_with (refine hI.mono ?_;rintro e w2 ⟨rfl,hb2⟩;obtain⟨_,_,_,_,_,c2,_⟩:=(HG.out.below hb2).cells HP.out;clear hI);go_ret;exact⟨by rw [← hr];simp;cases p.w <;> rfl,hb2⟩
 ·have e1:(p.k==15)=false:=by rw [beq_eq_false_iff_ne];exact hk
  rw [e1] at hI;have hr:false=R:=by rw [HR.out,e1];rfl
  subst hr;clear hk e1 HR;go_wp2_with (refine hI.mono ?_;rintro e w2 ⟨rfl,hb2⟩;clear hI);go_ret;exact⟨rfl,hb2⟩
def XE (l:List Pt) (K:Nat→List Nat) (k:Nat):Bool:=kd l k==some 15&&!(kd l ((K k).getD 0 0)==some 0)
theorem RH (hG:Gr l K U T nb w) (hW:Wf l K U T) (i:Nat) (hi:i < l.length):Calls Tryz.prog 87 #[.pointer (some ⟨nb i,0,none⟩)] w fun e w'=>e=.returned (.bool (XE l K i))∧Below w.heap.size w w':=by
 obtain⟨p,hp⟩:=CC hi;obtain⟨R,hR⟩:∃ R,R=XE l K i:=⟨_,rfl⟩;rw [← hR];unfold XE at hR;rw [zB hp,yA] at hR;have hI:=is1 (hG.kv hp) 15 (xi:=15) rfl 5;rw [qE] at hI;have HR:=hid hR;have HG:=hid hG;clear hR hG hi;go_enter Tryz.func87,Tryz.ntmps87;by_cases hk:p.k=15
 ·have e1:(p.k==15)=true:=by rw [hk];rfl
  rw [e1] at hI;obtain⟨k,q,h1,h2,h3,h4⟩:=hW.kid (m:=0) hp (by rw [hk];decide);obtain⟨m,hm⟩:∃ m,(K i).length=m+1:=⟨(K i).length - 1,by omega⟩;have hr:(!(q.k==0))=R:=by
   rw [HR.out,e1,List.getD_eq_getElem?_getD,h1]
   show _=(true&&!(kd l k==some 0))
   rw [zB h2,yA,Bool.true_and]
  have HP:=hid (And.intro hp (And.intro h1 (And.intro h2 hm)));clear hk e1 HR hp h1 h2 h3 h4 hm;have hI2:=fun w2 (hb2:Below w.heap.size w w2)=>is1 ((HG.out.below hb2).kv HP.out.2.2.1) 0 (xi:=0) rfl 5
  simp only [qE] at hI2;have HI2:=hid hI2;clear hI2;generalize (q.k==0)=X at *;go_wp2_with (first|(refine (HI2.out _ hb2).mono ?_;rintro e w3 ⟨rfl,hb3⟩;have hbl:=dA hb2 hb3)|(refine hI.mono ?_;rintro e w2 ⟨rfl,hb2⟩;obtain⟨kb,cap,c0,_,_,_,_,_,_,c6,hcap,hrow⟩:=(HG.out.below hb2).cells HP.out.1;obtain⟨b,rfl,hbb,c7⟩:=hrow 0 k HP.out.2.1;rw [HP.out.2.2.2] at c6 hcap;clear hI hrow));go_ret;exact⟨by rw [← hr];rfl,hbl⟩
 ·have e1:(p.k==15)=false:=by rw [beq_eq_false_iff_ne];exact hk
  rw [e1] at hI;have hr:false=R:=by rw [HR.out,e1];rfl
  subst hr;clear hk e1 HR;go_wp2_with (refine hI.mono ?_;rintro e w2 ⟨rfl,hb2⟩;clear hI);go_ret;exact⟨rfl,hb2⟩
theorem FT (P:Nat→Bool) (hG:Gr l K U T nb w) (hW:Wf l K U T) (hP:∀ (w':World) (k:Nat),Gr l K U T nb w'→k < l.length→Calls Tryz.prog 89 #[.pointer (some ⟨nb k,0,none⟩)] w' fun e w''=>e=.returned (.bool (P k))∧Below w'.heap.size w' w'') (i:Nat) (hi:i < l.length) :
  Calls Tryz.prog 88 #[.pointer (some ⟨nb i,0,none⟩),.func (.func 89) #[] #[]] w fun e w'=>e=.returned (.bool ((K i).any P))∧Below w.heap.size w w':=by
 obtain⟨p,hp⟩:=CC hi;obtain⟨kb,cap,c0,_,_,_,_,_,_,c6,hcap,hrow⟩:=hG.cells hp;obtain⟨R,hR⟩:∃ R,R=(K i).any P:=⟨_,rfl⟩;rw [← hR];have HR:=hid hR;have HG:=hid hG;have HROW:=hid hrow;have HP:=hid hP;obtain⟨n,hn⟩:∃ n,n=(K i).length:=⟨_,rfl⟩;rw [← hn] at c6 hcap;have HN:=hid hn;have hn2:n≤1000000000:=by
  have h2:=hW.few i;have:=hW.len;omega
 clear hR hG hrow hn hp hP;go_enter Tryz.func88,Tryz.ntmps88;go_wp2_with fail
 go_loopg [6,12] n (fun q v6 v12 wr=>∃ j:Nat,v12=.int .i64 (j:Int)∧j+q=n∧((K i).drop j).any P=R∧Below w.heap.size w wr)
 case atStart=>exact⟨0,rfl,by omega,by rw [List.drop_zero,HR.out],Below.refl _ _⟩
 case round =>
  obtain⟨j,rfl,hq,hr,hbl⟩:=hrel;by_cases hj:j < n
  ·obtain⟨k,q,hk,hqk,_⟩:=hW.kidAt (i:=i) (m:=j) (by rw [← HN.out];exact hj);obtain⟨b,rfl,hb2,c7⟩:=HROW.out j k hk;have c7:=mD hbl hb2 c7;rw [lF hk,List.any_cons] at hr;have hI:=HP.out wr k (HG.out.below hbl) (List.getElem?_eq_some_iff.1 hqk).1;have HQ:=hid hq;have j0:(0:Int)≤(j:Int):=by omega
   have j1:(j:Int) < (n:Int):=by omega
   have j2:j < 1000000000:=by omega
   have j3:decide (j < n)=true:=decide_eq_true hj;cases hk2:P k with
   | false =>
    rw [hk2] at hI;have hr2:((K i).drop (j+1)).any P=R:=by rw [← hr,hk2,Bool.false_or]
    have HR2:=hid hr2;clear hr hr2 hk hqk hq hk2;go_wp2_with (refine hI.mono ?_;rintro e w6 ⟨rfl,hb6⟩;have hbl2:=dA hbl hb6;clear hI hb6);go_roundg (gk - 1)
    case measure=>have:=HQ.out;omega
    case rel=>exact⟨j+1,by simp,by have:=HQ.out;omega,HR2.out,hbl2⟩
   | true =>
    rw [hk2] at hI;have hr2:true=R:=by rw [← hr,hk2,Bool.true_or]
    have HR2:=hid hr2;clear hr hr2 hk hqk hq hk2;go_wp2_with (refine hI.mono ?_;rintro e w6 ⟨rfl,hb6⟩;have hbl2:=dA hbl hb6;clear hI hb6);go_ret;exact⟨by rw [← HR2.out];rfl,hbl2⟩
  ·have hd:(K i).drop j=[]:=List.drop_eq_nil_of_le (by rw [← HN.out];omega);have hr2:false=R:=by rw [← hr,hd];rfl
   have HR2:=hid hr2;have j3:decide (j < n)=false:=decide_eq_false hj;clear hr hr2 hd hq hj;go_wp2_with fail;go_ret;exact⟨by rw [← HR2.out];rfl,hbl⟩
theorem DP (P:Nat→Bool) (hG:Gr l K U T nb w) (hW:Wf l K U T) (hP:∀ (w':World) (k:Nat),Gr l K U T nb w'→k < l.length→Calls Tryz.prog 87 #[.pointer (some ⟨nb k,0,none⟩)] w' fun e w''=>e=.returned (.bool (P k))∧Below w'.heap.size w' w'') (i:Nat) (hi:i < l.length) :
  Calls Tryz.prog 88 #[.pointer (some ⟨nb i,0,none⟩),.func (.func 87) #[] #[]] w fun e w'=>e=.returned (.bool ((K i).any P))∧Below w.heap.size w w':=by
 obtain⟨p,hp⟩:=CC hi;obtain⟨kb,cap,c0,_,_,_,_,_,_,c6,hcap,hrow⟩:=hG.cells hp;obtain⟨R,hR⟩:∃ R,R=(K i).any P:=⟨_,rfl⟩;rw [← hR];have HR:=hid hR;have HG:=hid hG;have HROW:=hid hrow;have HP:=hid hP;obtain⟨n,hn⟩:∃ n,n=(K i).length:=⟨_,rfl⟩;rw [← hn] at c6 hcap;have HN:=hid hn;have hn2:n≤1000000000:=by
  have h2:=hW.few i;have:=hW.len;omega
 clear hR hG hrow hn hp hP;go_enter Tryz.func88,Tryz.ntmps88;go_wp2_with fail
 go_loopg [6,12] n (fun q v6 v12 wr=>∃ j:Nat,v12=.int .i64 (j:Int)∧j+q=n∧((K i).drop j).any P=R∧Below w.heap.size w wr)
 case atStart=>exact⟨0,rfl,by omega,by rw [List.drop_zero,HR.out],Below.refl _ _⟩
 case round =>
  obtain⟨j,rfl,hq,hr,hbl⟩:=hrel;by_cases hj:j < n
  ·obtain⟨k,q,hk,hqk,_⟩:=hW.kidAt (i:=i) (m:=j) (by rw [← HN.out];exact hj);obtain⟨b,rfl,hb2,c7⟩:=HROW.out j k hk;have c7:=mD hbl hb2 c7;rw [lF hk,List.any_cons] at hr;have hI:=HP.out wr k (HG.out.below hbl) (List.getElem?_eq_some_iff.1 hqk).1;have HQ:=hid hq;have j0:(0:Int)≤(j:Int):=by omega
   have j1:(j:Int) < (n:Int):=by omega
   have j2:j < 1000000000:=by omega
   have j3:decide (j < n)=true:=decide_eq_true hj;cases hk2:P k with
   | false =>
    rw [hk2] at hI;have hr2:((K i).drop (j+1)).any P=R:=by rw [← hr,hk2,Bool.false_or]
    have HR2:=hid hr2;clear hr hr2 hk hqk hq hk2;go_wp2_with (refine hI.mono ?_;rintro e w6 ⟨rfl,hb6⟩;have hbl2:=dA hbl hb6;clear hI hb6);go_roundg (gk - 1)
    case measure=>have:=HQ.out;omega
    case rel=>exact⟨j+1,by simp,by have:=HQ.out;omega,HR2.out,hbl2⟩
   | true =>
    rw [hk2] at hI;have hr2:true=R:=by rw [← hr,hk2,Bool.true_or]
    have HR2:=hid hr2;clear hr hr2 hk hqk hq hk2;go_wp2_with (refine hI.mono ?_;rintro e w6 ⟨rfl,hb6⟩;have hbl2:=dA hbl hb6;clear hI hb6);go_ret;exact⟨by rw [← HR2.out];rfl,hbl2⟩
  ·have hd:(K i).drop j=[]:=List.drop_eq_nil_of_le (by rw [← HN.out];omega);have hr2:false=R:=by rw [← hr,hd];rfl
   have HR2:=hid hr2;have j3:decide (j < n)=false:=decide_eq_false hj;clear hr hr2 hd hq hj;go_wp2_with fail;go_ret;exact⟨by rw [← HR2.out];rfl,hbl⟩
def kI (l:List Pt) (K:Nat→List Nat) (i:Nat):Bool:=kd l i==some 14&&(K i).any (YM l)
theorem vK (hG:Gr l K U T nb w) (hW:Wf l K U T) (i:Nat) (hi:i < l.length):Calls Tryz.prog 57 #[.pointer (some ⟨nb i,0,none⟩)] w fun e w'=>e=.returned (.bool (kI l K i))∧Below w.heap.size w w':=by
 obtain⟨p,hp⟩:=CC hi;obtain⟨R,hR⟩:∃ R,R=kI l K i:=⟨_,rfl⟩;rw [← hR];unfold kI at hR;rw [zB hp,yA] at hR;have hI:=is1 (hG.kv hp) 14 (xi:=14) rfl 5;rw [qE] at hI;have HS:=hid (fun w2 (hb2:Below w.heap.size w w2)=>FT (YM l) (hG.below hb2) hW (fun w' k h hk=>VS h k hk) i hi);have HR:=hid hR;clear hR hG hi hp;generalize (K i).any (YM l)=X at *;go_enter Tryz.func57,Tryz.ntmps57;by_cases hk:p.k=14
 ·have e1:(p.k==14)=true:=by rw [hk];rfl
  rw [e1] at hI;have hr:X=R:=by rw [HR.out,e1,Bool.true_and]
  subst hr;clear hk e1 HR;go_wp2_with (first|(refine (HS.out _ hb2).mono ?_;rintro e w3 ⟨rfl,hb3⟩;have hbl:=dA hb2 hb3)|(refine hI.mono ?_;rintro e w2 ⟨rfl,hb2⟩;clear hI));go_ret;exact⟨rfl,hbl⟩
 ·have e1:(p.k==14)=false:=by rw [beq_eq_false_iff_ne];exact hk
  rw [e1] at hI;have hr:false=R:=by rw [HR.out,e1];rfl
  subst hr;clear hk e1 HR;go_wp2_with (refine hI.mono ?_;rintro e w2 ⟨rfl,hb2⟩;clear hI);go_ret;exact⟨rfl,hb2⟩
end Shp
end Go.Proofs.YtcjmpafkcmlhbaaGreatDoor
