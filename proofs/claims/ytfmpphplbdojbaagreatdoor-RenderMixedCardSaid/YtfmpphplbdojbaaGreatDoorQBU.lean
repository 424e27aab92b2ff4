import Derived.Great.Walk
import Derived.Test.YtfmpphplbdojbaaGreatDoorQBR
import Derived.Lib.IndexAny
import Derived.Test.YtfmpphplbdojbaaGreatDoorQBS
import Derived.Test.YtfmpphplbdojbaaGreatDoorQBQ
import Derived.Test.YtfmpphplbdojbaaGreatDoorQBE
import Derived.Test.YtfmpphplbdojbaaGreatDoorQBT
namespace Go.Proofs.YtfmpphplbdojbaaGreatDoor
open Lib(hid)
set_option linter.all false
set_option maxHeartbeats 40000000
set_option maxRecDepth 100000
namespace Ck
open Go.RowKit
variable {w w':World}
structure Rw where
 n:Int
 m:Bool
 o:Bool
 ws:List (List UInt8)
def xQ4:List Rw:=[
 ⟨0,false,true,[]⟩,⟨3,false,true,[]⟩,⟨0,true,true,[]⟩,⟨1,false,false,[[105,109,112,111,114,116],[99,111,110,115,116],[118,97,114],[116,121,112,101]]⟩,⟨0,true,false,[[105,109,112,111,114,116],[99,111,110,115,116],[118,97,114],[116,121,112,101]]⟩,⟨2,false,true,[[46]]⟩,
 ⟨3,false,true,[]⟩,⟨3,false,true,[[61]]⟩,⟨5,false,true,[]⟩,⟨2,false,true,[]⟩,⟨1,true,true,[]⟩,⟨0,true,true,[]⟩,
 ⟨0,true,true,[]⟩,⟨0,true,true,[]⟩,⟨0,true,true,[]⟩,⟨2,false,true,[[46,46,46]]⟩,⟨1,true,true,[]⟩,⟨2,false,true,[]⟩,
 ⟨1,true,true,[]⟩,⟨1,false,true,[]⟩,⟨0,true,true,[]⟩,⟨3,false,true,[]⟩,⟨2,false,true,[]⟩,⟨0,true,true,[]⟩,
 ⟨2,false,true,[]⟩,⟨0,true,true,[]⟩,⟨0,false,false,[]⟩,⟨0,false,false,[]⟩,⟨1,false,true,[]⟩,⟨2,false,true,[]⟩,
 ⟨2,false,true,[]⟩,⟨4,false,true,[]⟩,⟨2,false,true,[]⟩,⟨1,false,true,[]⟩,⟨2,false,true,[[46,46,46]]⟩,⟨1,false,true,[]⟩,
 ⟨1,false,false,[[43],[45],[33],[94],[38],[60,45]]⟩,⟨2,false,false,[[124,124],[38,38],[61,61],[33,61],[60],[60,61],[62],[62,61],[43],[45],[124],[94],[42],[47],[37],[60,60],[62,62],[38],[38,94]]⟩,⟨2,false,true,[]⟩,⟨2,false,true,[]⟩,⟨2,false,true,[]⟩,⟨2,false,true,[]⟩,
 ⟨1,false,true,[]⟩,⟨1,false,true,[]⟩,⟨2,false,true,[]⟩,⟨1,false,false,[[99,104,97,110],[99,104,97,110,60,45],[60,45,99,104,97,110]]⟩,⟨1,false,true,[]⟩,⟨1,false,true,[]⟩,
 ⟨1,false,true,[]⟩,⟨0,false,true,[]⟩,⟨1,false,true,[]⟩,⟨2,false,true,[]⟩,⟨1,false,false,[[43,43],[45,45]]⟩,⟨2,false,false,[[61],[58,61],[43,61],[45,61],[42,61],[47,61],[37,61],[38,61],[124,61],[94,61],[60,60,61],[62,62,61],[38,94,61]]⟩,
 ⟨1,false,true,[]⟩,⟨1,false,true,[]⟩,⟨1,false,true,[]⟩,⟨1,false,false,[[98,114,101,97,107],[99,111,110,116,105,110,117,101],[103,111,116,111],[102,97,108,108,116,104,114,111,117,103,104]]⟩,⟨1,false,true,[]⟩,⟨4,false,true,[]⟩,
 ⟨3,false,true,[]⟩,⟨4,false,true,[]⟩,⟨2,false,true,[]⟩,⟨1,false,true,[]⟩,⟨2,false,true,[]⟩,⟨4,false,true,[]⟩,
 ⟨3,false,true,[[61],[58,61]]⟩,⟨2,false,true,[]⟩,⟨1,false,true,[]⟩]
def LQ4:Nat->List Rw->List Value
 | _,[]=>[]
 | b,r::t=>.int .i64 r.n::.bool r.m::.bool r.o::(match r.ws with|[]=>.slice none 0 0|_=>.slice (some ⟨b,0,none⟩) r.ws.length r.ws.length)::LQ4 (match r.ws with|[]=>b|_=>b+1) t
def EQ5:World->List Rw->World
 | w,[]=>w
 | w,r::t=>EQ5 (match r.ws with|[]=>w|_=>w.alloc (.cells (MQ4 r.ws).toArray 9)) t
theorem UQ4:∀ (L:List Rw) (w:World),Below w.heap.size w (EQ5 w L)
 | [],w=>J' _ _
 | r::t,w=>by
  unfold EQ5;split
  ·exact UQ4 t w
  ·exact dA ((J' _ _).alloc (C' _) _) (UQ4 t _)
theorem AQ6:∀ (L:List Rw) (w:World) (i:Nat) (r:Rw),L[i]?=some r->∃ a,(LQ4 w.heap.size L)[i*4]?=some (.int .i64 r.n)/\(LQ4 w.heap.size L)[i*4+1]?=some (.bool r.m)/\(LQ4 w.heap.size L)[i*4+2]?=some (.bool r.o)/\(LQ4 w.heap.size L)[i*4+3]?=some (.slice a r.ws.length r.ws.length)/\DQ5 (EQ5 w L) a r.ws
 | [],w,i,r,h=>Ha
 | q::t,w,0,r,h=>by
  simp at h;subst h;cases hq:q.ws with
  | nil=>exact⟨none,by simp [LQ4,hq],by simp [LQ4,hq],by simp [LQ4,hq],by simp [LQ4,hq],.inl rfl⟩
  | cons x y =>
   refine⟨some ⟨w.heap.size,0,none⟩,by simp [LQ4,hq],by simp [LQ4,hq],by simp [LQ4,hq],by simp [LQ4,hq],.inr ⟨_,rfl,?_,fun j z hz=>?_⟩⟩
   ·simp only [EQ5,hq];exact Af Cm (UQ4 t _).size
   ·simp only [EQ5,hq];exact ((UQ4 t _).cell (p:=⟨w.heap.size,j,none⟩) Cm).trans (DQ8 w (x::y) 9 j z hz)
 | q::t,w,i+1,r,h=>by
  have e:(i+1)*4=i*4+1+1+1+1:=Cf
  rw [e];cases hq:q.ws with
  | nil =>
   obtain⟨a,h1,h2,h3,h4,h5⟩:=AQ6 t w i r Dc;exact⟨a,by simpa [LQ4,hq] using h1,by simpa [LQ4,hq] using h2,by simpa [LQ4,hq] using h3,by simpa [LQ4,hq] using h4,by simpa only [EQ5,hq] using h5⟩
  | cons x y =>
   obtain⟨a,h1,h2,h3,h4,h5⟩:=AQ6 t (w.alloc (.cells (MQ4 (x::y)).toArray 9)) i r Dc;have hs:(w.alloc (.cells (MQ4 (x::y)).toArray 9)).heap.size=w.heap.size+1:=Cm
   rw [hs] at h1 h2 h3 h4;exact⟨a,by simpa [LQ4,hq] using h1,by simpa [LQ4,hq] using h2,by simpa [LQ4,hq] using h3,by simpa [LQ4,hq] using h4,by simpa only [EQ5,hq] using h5⟩
theorem YQ7 (w:World):(EQ5 w xQ4).heap.size=w.heap.size+13:=by simp [xQ4,EQ5]
def rwT (k:UInt8):Rw:=xQ4[k.toNat]?.getD ⟨-1,false,false,[]⟩
def sQ8 (k:UInt8) (e:Ending) (w':World):Prop:=∃ a,e=.returned (.agg #[.int .i64 (rwT k).n,.bool (rwT k).m,.bool (rwT k).o,.slice a (rwT k).ws.length (rwT k).ws.length])/\DQ5 w' a (rwT k).ws
theorem TQ6 {w:World}{b:Nat}{x0 x1 x2 x3:Value}{T:TypeId} (h:w.heap[b]?=some (.cells #[x0,x1,x2,x3] T (0,0))) (y0 y1 y2 y3:Value):((((w.setCell ⟨b,0,none⟩ y0).setCell ⟨b,1,none⟩ y1).setCell ⟨b,2,none⟩ y2).setCell ⟨b,3,none⟩ y3).heap[b]?=some (.cells #[y0,y1,y2,y3] T (0,0)):=by
 have s1:=heap_setCell_same w b 0 _ _ y0 h;have s2:=heap_setCell_same (w.setCell ⟨b,0,none⟩ y0) b 1 _ _ y1 s1;have s3:=heap_setCell_same ((w.setCell ⟨b,0,none⟩ y0).setCell ⟨b,1,none⟩ y1) b 2 _ _ y2 s2;have s4:=heap_setCell_same (((w.setCell ⟨b,0,none⟩ y0).setCell ⟨b,1,none⟩ y1).setCell ⟨b,2,none⟩ y2) b 3 _ _ y3 s3;simp only [N',Q',S'] at s4;exact s4
theorem dQ5 {w:World}{b:Nat}{x0 x1 x2 x3:Value}{T:TypeId} (h:w.heap[b]?=some (.cells #[x0,x1,x2,x3] T (0,0))):w.cell? ⟨b,0,none⟩=some x0/\w.cell? ⟨b,1,none⟩=some x1/\w.cell? ⟨b,2,none⟩=some x2/\w.cell? ⟨b,3,none⟩=some x3/\w.frozen? ⟨b,0,none⟩=false/\w.frozen? ⟨b,1,none⟩=false/\w.frozen? ⟨b,2,none⟩=false/\w.frozen? ⟨b,3,none⟩=false:=by
 refine⟨?_,?_,?_,?_,?_,?_,?_,?_⟩
 all_goals first
  | (unfold World.cell?;rw [h];rfl)
  | (unfold World.frozen?;rw [h];rfl)
theorem Tryz.infoRow:(Tryz.prog.info? 83).map (·.size)=some 4:=Ci
theorem uQ7 {fn:Func} (hf:fn.results=#[.cell 2 83]) {R:Ending->World->Prop}{a:Act}{W:World}{r:Nat}{x0 x1 x2 x3:Value} (ht:a.tmps.getD 2 undef=.pointer (some ⟨r,0,none⟩)) (hd:a.defers=[]) (c:W.heap[r]?=some (.cells #[x0,x1,x2,x3] 83 (0,0))) (hR:R (.returned (.agg #[x0,x1,x2,x3])) W):bodyPost Tryz.prog fn R .ret a W:=by
 refine bodyPost_ret (v:=.agg #[x0,x1,x2,x3]) ?_ hd hR;have h:=run_loadVar_row (P:=Tryz.prog) W r _ 83 #[x0,x1,x2,x3] (0,0) _ c Tryz.underlying83 rfl Tryz.infoRow;have ht2:a.tmps[2]?.getD undef=.pointer (some ⟨r,0,none⟩):=by simpa using ht
 unfold results;rw [hf];simp [ht2,asAddr,h]
theorem WQ8 {wB wD:World}{a:Option Addr}{L:List (List UInt8)}{z:Nat}{n:Int} (h:DQ5 wB a L) (hz:wB.cell? ⟨z,0,none⟩=some (.int .i64 n)) (hs:wB.heap.size<=wD.heap.size) (hc:∀ p:Addr,p.block≠z->p.block < wB.heap.size->wD.cell? p=wB.cell? p):DQ5 wD a L:=by
 rcases h with h|⟨b,h1,h2,h3⟩
 ·exact .inl h
 ·by_cases hL:L=[]
  ·exact .inl hL
  ·refine .inr ⟨b,h1,Cf,fun j x hx=>?_⟩;have hne:b≠z:=by
    rintro rfl;cases L with
    | nil=>exact hL rfl
    | cons y t =>
     have:=h3 0 y rfl;rw [hz] at this;cases this
   rw [hc ⟨b,j,none⟩ hne h2];exact h3 j x hx
theorem UQ6 {P:Program}{ops:Array Oper}{rest:List Oper}{o:Oper}{a:Act}{w:World}{Q:Exit->Act->World->Prop} (hg:o.guard=none) (t e:TypeId) (len:Nat) (parts:Array (Nat × Operand)) (ho:o.op=.buildSlice t len parts)
  (N:Nat) (hN:w.heap.size=N) (dst:Option Tmp) (hdst:o.dst=dst) (hu:P.underlying t=some (.slice e)) (cells:Array Value)
  (hf:P.builtSlice e len (parts.map fun (i,x)=>(i,a.eval x)).toList=some cells) (W0:World) (hw:w=W0)
  (h:∀ W1,W1=W0.alloc (.cells cells e)->wpList P ops Q rest (a.put dst (.slice (some ⟨N,0,none⟩) len len)) W1):wpList P ops Q (o::rest) a w :=
 Great.wpList_buildSliceTo hg t e len parts ho N hN dst hdst hu cells hf (by rw [hw];exact h _ rfl)
theorem jW (k:UInt8):Calls Tryz.prog 39 #[.int .u8 (k.toNat:Int)] w fun e w'=>sQ8 k e w'/\Below w.heap.size w w':=by
 go_enter Tryz.func39,Tryz.ntmps39;go_upto_region 2 with (refine UQ6 rfl 105 83 69 _ rfl (w.heap.size+14) Cm _ rfl Ci (LQ4 (w.heap.size+1) xQ4).toArray Ci (EQ5 (w.alloc (.cells #[.int .i64 0,.bool false,.bool false,.slice none 0 0] 83)) xQ4) Ci ?_;intro W1 hW1);have hr0:=YQ7 (w.alloc (.cells #[.int .i64 0,.bool false,.bool false,.slice none 0 0] 83));rw [show (w.alloc (.cells #[.int .i64 0,.bool false,.bool false,.slice none 0 0] 83)).heap.size=w.heap.size+1 by simp] at hr0;have hb0:=UQ4 xQ4 (w.alloc (.cells #[.int .i64 0,.bool false,.bool false,.slice none 0 0] 83));have hk0:=heap_alloc_new w (Obj.cells #[.int .i64 0,.bool false,.bool false,.slice none 0 0] 83);have hA:=hid (AQ6 xQ4 (w.alloc (.cells #[.int .i64 0,.bool false,.bool false,.slice none 0 0] 83)));have hs0:(w.alloc (.cells #[.int .i64 0,.bool false,.bool false,.slice none 0 0] 83)).heap.size=w.heap.size+1:=Cm
 have hbw:=(J' w.heap.size w).alloc (C' _) (Obj.cells #[.int .i64 0,.bool false,.bool false,.slice none 0 0] 83);generalize w.alloc (.cells #[.int .i64 0,.bool false,.bool false,.slice none 0 0] 83)=wA at *;have HB0:=hid (hbw.trans (hb0.mono Cf));have hk1:=(hb0.block w.heap.size Cf).trans hk0;have HS0:=hid hs0;clear hbw hb0 hk0 hs0;rw [HS0.out] at hA;generalize EQ5 wA xQ4=wB at *;have hbl:=heap_alloc_new wB (Obj.cells (LQ4 (w.heap.size+1) xQ4).toArray 83);rw [hr0] at hbl;have hk2:(wB.alloc (Obj.cells (LQ4 (w.heap.size+1) xQ4).toArray 83)).heap[w.heap.size]?=some (Obj.cells #[.int .i64 0,.bool false,.bool false,.slice none 0 0] 83 (0,0)):=by
  rw [Ac _ _ _ Cf];exact hk1
 have hbc:=(J' wB.heap.size wB).alloc (C' _) (Obj.cells (LQ4 (w.heap.size+1) xQ4).toArray 83);have HBC:=hid (And.intro (HB0.out.trans (hbc.mono Cf)) hbc);clear hbc hr0;generalize wB.alloc (Obj.cells (LQ4 (w.heap.size+1) xQ4).toArray 83)=wC at *;have hk3:wB.cell? ⟨w.heap.size,0,none⟩=some (.int .i64 0):=(dQ5 hk1).1;have HK3:=hid hk3;have HK2:=hid hk2;clear hk1 hk3;obtain⟨c0,c1,c2,c3,f0,f1,f2,f3⟩:=dQ5 hk2;by_cases hk:k.toNat < 69
 ·obtain⟨r,hr⟩:∃ r,xQ4[k.toNat]?=some r:=⟨_,M' (show k.toNat < xQ4.length from hk)⟩;obtain⟨a,e0,e1,e2,e3,hws⟩:=hA.out _ _ hr;have HRW:Hid (rwT k=r):=hid (by unfold rwT;rw [hr];rfl);have HWS:=hid hws;obtain⟨n,hn⟩:∃ n,n=k.toNat:=⟨_,rfl⟩;rw [<- hn] at e0 e1 e2 e3 hk;have d0:wC.cell? ⟨w.heap.size+14,n*4,none⟩=some (.int .i64 r.n):=by unfold World.cell?;rw [hbl];simpa using e0
  have d1:wC.cell? ⟨w.heap.size+14,n*4+1,none⟩=some (.bool r.m):=by unfold World.cell?;rw [hbl];simpa using e1
  have d2:wC.cell? ⟨w.heap.size+14,n*4+2,none⟩=some (.bool r.o):=by unfold World.cell?;rw [hbl];simpa using e2
  have d3:wC.cell? ⟨w.heap.size+14,n*4+3,none⟩=some (.slice a r.ws.length r.ws.length):=by unfold World.cell?;rw [hbl];simpa using e3
  rw [<- hn];have j0:(n:Int) < 69:=Cf
  have j1:(0:Int)<=(n:Int):=Cf
  clear e0 e1 e2 e3 hws hr hA hbl hk2 hn hW1;go_wp2_with fail;refine uQ7 rfl rfl rfl (TQ6 HK2.out _ _ _ _) ⟨⟨a,by rw [HRW.out],?_⟩,((((HBC.out.1.setCell (C' _) _).setCell (C' _) _).setCell (C' _) _).setCell (C' _) _)⟩;rw [HRW.out];refine WQ8 HWS.out HK3.out (by simpa using HBC.out.2.size) (fun p hp hl=>?_);have hne:∀ i,(⟨w.heap.size,i,none⟩:Addr)≠p:=fun i e=>hp (by rw [<- e])
  rw [World.cell?_setCell_other (h:=hne 3),World.cell?_setCell_other (h:=hne 2),World.cell?_setCell_other (h:=hne 1),World.cell?_setCell_other (h:=hne 0)];exact HBC.out.2.cell hl
 ·have HRW:Hid (rwT k=⟨-1,false,false,[]⟩):=hid (by unfold rwT;rw [Ap (show xQ4.length<=k.toNat from (show 69<=k.toNat by omega))];rfl);obtain⟨n,hn⟩:∃ n,n=k.toNat:=⟨_,rfl⟩;rw [<- hn] at hk;rw [<- hn];have j0:(69:Int)<=(n:Int):=by omega
  have j1:(0:Int)<=(n:Int):=Cf
  have j2:(n:Int)<=255:=by have:=k.toNat_lt;omega
  clear hA hbl hk2 hW1 hn;have jb:decide (69<=n)=true:=decide_eq_true Cf;go_wp2_with fail
  all_goals first
   | (exfalso;omega)
   | refine uQ7 rfl rfl rfl (TQ6 HK2.out _ _ _ _) ⟨⟨none,by rw [HRW.out];rfl,by rw [HRW.out];exact .inl rfl⟩,((((HBC.out.1.setCell (C' _) _).setCell (C' _) _).setCell (C' _) _).setCell (C' _) _)⟩
end Ck
namespace Ck
open Go.RowKit
theorem DQ7 (s sub:List UInt8):Lib.contains s sub=true↔∃ j,j<=s.length/\sub <+: s.drop j:=by
 unfold Lib.contains;rw [decide_eq_true_iff];rcases Lib.index_spec s sub with ⟨h1,h2⟩|⟨i,h1,h2,h3,_⟩
 ·constructor
  ·intro h;omega
  ·rintro⟨j,hj,hp⟩;have:=h2 j hj;rw [Lib.occAt,<- Bool.not_eq_true,List.isPrefixOf_iff_prefix] at this;exact absurd hp this
 ·constructor
  ·intro _;exact⟨i,h2,List.isPrefixOf_iff_prefix.1 h3⟩
  ·intro _;omega
theorem MQ5:∀ {t x rest:List UInt8},¬ 32∈t->¬ 32∈x->((t++[32]) <+: (x++32::rest)↔t=x)
 | [],[],_,_,_=>Cm
 | [],b::x,rest,_,h=>by
  simp only [Ao,Al,List.cons_prefix_cons,reduceCtorEq,iff_false];rintro⟨e,_⟩;exact h (by simp [<- e])
 | a::t,[],rest,h,_=>by
  simp only [Ao,Al,List.cons_prefix_cons,reduceCtorEq,iff_false];rintro⟨e,_⟩;exact h (by simp [e])
 | a::t,b::x,rest,h1,h2=>by
  simp only [List.mem_cons,not_or] at h1 h2;simp only [Al,List.cons_prefix_cons,MQ5 h1.2 h2.2,List.cons.injEq]
theorem vQ5 {t:List UInt8} (ht:¬ 32∈t) (h0:t≠[]):∀ ws:List (List UInt8),(∀ x∈ws,¬ 32∈x)->(Lib.contains (32::ws.flatMap (·++[32])) (32::(t++[32]))=true↔t∈ws)
 | [],_=>by
  rw [DQ7];simp only [List.flatMap_nil,List.not_mem_nil,iff_false];rintro⟨j,_,hp⟩;have:=hp.length_le;simp at this;omega
 | x::r,h=>by
  have ih:=vQ5 ht h0 r fun y hy=>h y (by simp [hy])
  have hx:¬ 32∈x:=h x Cm;rw [DQ7] at ih ⊢;rw [List.mem_cons,<- ih,List.flatMap_cons];have e:32::(x++[32]++r.flatMap (·++[32]))=32::(x++(32::r.flatMap (·++[32]))):=Cm
  rw [e];constructor
  ·rintro⟨j,hj,hp⟩;rcases Nat.eq_zero_or_pos j with rfl|hj0
   ·rw [List.drop_zero,List.cons_prefix_cons,MQ5 ht hx] at hp;exact .inl hp.2
   ·obtain⟨i,rfl⟩:∃ i,j=i+1:=⟨j - 1,Cf⟩;rw [List.drop_succ_cons] at hp;by_cases hi:i < x.length
    ·exfalso
     rw [List.drop_append_of_le_length Cf,An hi,Al,List.cons_prefix_cons] at hp;exact hx (by rw [hp.1];exact List.getElem_mem hi)
    ·refine .inr ⟨i - x.length,?_,?_⟩
     ·simp at hj ⊢;omega
     ·rw [List.drop_append,List.drop_of_length_le Cf,Ao] at hp;exact hp
  ·rintro (rfl|⟨j,hj,hp⟩)
   ·exact⟨0,Cf,by rw [List.drop_zero,List.cons_prefix_cons,MQ5 ht hx];exact⟨rfl,rfl⟩⟩
   ·refine⟨x.length+1+j,by simp at hj ⊢;omega,?_⟩;rw [show x.length+1+j=(x.length+j)+1 by omega,List.drop_succ_cons,List.drop_append,List.drop_of_length_le Cf,Ao];rw [show x.length+j - x.length=j by omega];exact hp
theorem lQ9 (t:List UInt8):decide (0<=Lib.indexByte t 32)=false↔¬ 32∈t:=by
 rw [<- Lib.contains_iff_indexByte,<- Bool.not_eq_true,List.contains_iff_mem]
def NJ (r:Rw) (t:List UInt8):Bool:=((t==[])&&r.o)||r.ws.contains t
def IQ9 (k:Nat) (r:Rw):Bool:=(wG k==[]&&r.o&&r.ws.isEmpty)||(wG k==32::r.ws.flatMap (·++[32])&&!(wG k==[])&&!r.o&&r.ws.all fun x=>!x.isEmpty&&!x.contains 32)
theorem RQ7:∀ k:Fin 69,(k.val=26∨k.val=27)∨(xQ4[k.val]?.getD ⟨-1,false,false,[]⟩).ws=[[46]]/\k.val=5/\(xQ4[k.val]?.getD ⟨-1,false,false,[]⟩).o=true∨(xQ4[k.val]?.getD ⟨-1,false,false,[]⟩).ws=[[61]]/\k.val=7/\(xQ4[k.val]?.getD ⟨-1,false,false,[]⟩).o=true∨(xQ4[k.val]?.getD ⟨-1,false,false,[]⟩).ws=[[46,46,46]]/\(k.val=15∨k.val=34)/\(xQ4[k.val]?.getD ⟨-1,false,false,[]⟩).o=true ∨
  (xQ4[k.val]?.getD ⟨-1,false,false,[]⟩).ws=[[61],[58,61]]/\k.val=66/\(xQ4[k.val]?.getD ⟨-1,false,false,[]⟩).o=true∨¬ (k.val=5∨k.val=7∨k.val=15∨k.val=34∨k.val=66)/\IQ9 k.val (xQ4[k.val]?.getD ⟨-1,false,false,[]⟩)=true:=Gx
theorem gQ8 {k:UInt8} (h:¬ k.toNat < 69):rwT k=⟨-1,false,false,[]⟩:=by unfold rwT;rw [Ap (show xQ4.length<=k.toNat from by have:xQ4.length=69:=rfl;omega)];rfl
theorem NQ7:∀ k:Fin 69,(gD k.val).1=(xQ4[k.val]?.getD ⟨-1,false,false,[]⟩).n/\(gD k.val).2=(xQ4[k.val]?.getD ⟨-1,false,false,[]⟩).m/\¬ (xQ4[k.val]?.getD ⟨-1,false,false,[]⟩).n < 0/\(xQ4[k.val]?.getD ⟨-1,false,false,[]⟩).ws.length<=1000:=Gx
theorem dQ8 {k:UInt8} (hk:k.toNat < 69):(gD k.toNat).1=(rwT k).n/\(gD k.toNat).2=(rwT k).m/\¬ (rwT k).n < 0/\(rwT k).ws.length<=1000:=NQ7 ⟨k.toNat,hk⟩
theorem PQ9 {k:UInt8} (h:¬ (rwT k).n < 0):k.toNat < 69:=by
 by_cases hk:k.toNat < 69
 ·exact hk
 ·rw [gQ8 hk] at h;exact absurd Ch h
theorem mQ3 (p:Grd.Pt):AE p=(!decide ((rwT p.k).n < 0)&&(!decide (p.n < (rwT p.k).n)&&(!(!(rwT p.k).m&&p.n != (rwT p.k).n)&&AC p.k.toNat p.w))):=by
 unfold AE;by_cases hk:p.k.toNat < 69
 ·obtain⟨h1,h2,h3,_⟩:=dQ8 hk;rw [h1,h2,decide_eq_false h3,decide_eq_false (show ¬ (68:Int) < (p.k.toNat:Int) by omega)];generalize (rwT p.k).n=n;generalize (rwT p.k).m=m;by_cases h4:p.n < n
  ·simp [h4]
  ·by_cases h5:p.n=n
   ·subst h5;simp
   ·have h6:n < p.n:=by omega
    have h7:(p.n != n)=true:=by simpa using h5
    rw [decide_eq_true h6,h7];cases m <;> simp
 ·rw [gQ8 hk,decide_eq_true (show (68:Int) < (p.k.toNat:Int) by omega)];simp
theorem WQ7 {k:UInt8}{t:List UInt8} (hk:k.toNat < 69) (h26:k.toNat≠26) (h27:k.toNat≠27):AC k.toNat t=NJ (rwT k) t:=by
 have h:=RQ7 ⟨k.toNat,hk⟩;simp only [] at h;unfold NJ rwT;generalize (xQ4[k.toNat]?.getD ⟨-1,false,false,[]⟩)=r at *;generalize k.toNat=n at *;have e26:((n:Int)==26)=false:=Cn
 have e27:((n:Int)==27)=false:=Cn
 unfold AC;rw [e26,e27];rcases h with h|⟨hw,rfl,ho⟩|⟨hw,rfl,ho⟩|⟨hw,rfl|rfl,ho⟩|⟨hw,rfl,ho⟩|⟨hn,hp⟩
 ·exact Cf
 iterate 4
  ·rw [hw,ho,Bool.eq_iff_iff];simp
 ·rw [hw,ho,Bool.eq_iff_iff];simp [or_assoc]
 ·simp only [not_or] at hn;have n5:((n:Int)==5)=false:=by simp;omega
  have n7:((n:Int)==7)=false:=Cn
  have n15:((n:Int)==15)=false:=Cn
  have n34:((n:Int)==34)=false:=Cn
  have n66:((n:Int)==66)=false:=Cn
  rw [n5,n7,n15,n34,n66];simp only [Bool.false_eq_true,if_false,Bool.or_false];unfold IQ9 at hp;simp only [Bool.or_eq_true,Bool.and_eq_true,Bool.not_eq_true'] at hp;rcases hp with ⟨⟨h1,h2⟩,h3⟩|⟨⟨⟨h1,h2⟩,h3⟩,h4⟩
  ·rw [h1,if_pos rfl,h2,List.isEmpty_iff.1 h3];simp
  ·rw [h2,if_neg Cm,h3];rw [beq_iff_eq] at h1;rw [h1];simp only [Bool.and_false,Bool.false_or];rw [List.all_eq_true] at h4;have hx:∀ x∈r.ws,¬ 32∈x:=fun x hxm=>by
    have:=h4 x hxm;simp only [Bool.and_eq_true,Bool.not_eq_true',List.contains_eq_mem,decide_eq_false_iff_not] at this;exact this.2
   have hne:¬ []∈r.ws:=fun hxm=>by
    have:=h4 _ hxm;simp at this
   rw [Bool.eq_iff_iff,Bool.and_eq_true,Bool.and_eq_true,Bool.not_eq_true',Bool.not_eq_true',lQ9,List.contains_iff_mem,beq_eq_false_iff_ne];constructor
   ·rintro⟨⟨a,b⟩,c⟩;exact (vQ5 b a _ hx).1 c
   ·intro hm;have a:t≠[]:=fun e=>hne (e ▸ hm)
    exact⟨⟨a,hx t hm⟩,(vQ5 (hx t hm) a _ hx).2 hm⟩
theorem LQ7 (t:List UInt8):AC 27 t=(decide (VQ4 t=some t.length)||(Num.KQ5 t != 0)):=by
 have h:AC 27 t=((uG t).2==0||Num.yE t != 0):=rfl;rw [h,Num.ZQ8]
 congr 1
 rw [Bool.eq_iff_iff,beq_iff_eq,decide_eq_true_iff];exact aQ9 t
end Ck
namespace Ck
open Go.RowKit
variable {w w':World}
theorem hQ8 {w w':World}{a:Option Addr}{L:List (List UInt8)} (h:DQ5 w a L) (hb:Below w.heap.size w w'):DQ5 w' a L:=by
 rcases h with h|⟨b,h1,h2,h3⟩
 ·exact .inl h
 ·exact .inr ⟨b,h1,Af h2 hb.size,fun j x hx=>(hb.cell (p:=⟨b,j,none⟩) h2).trans (h3 j x hx)⟩
theorem WQ6 (k:UInt8) (t:List UInt8) (ht:t.length<=1048576) (hk:k.toNat < 69):Calls Tryz.prog 40 #[.int .u8 (k.toNat:Int),.string ⟨t.toArray⟩] w fun e w'=>e=.returned (.bool (AC k.toNat t))/\Below w.heap.size w w':=by
 by_cases h26:k.toNat=26
 ·rw [h26];have hN:=cQ7 (w:=w) t ht;rw [show AC ((26:Nat):Int) t=VM t from rfl];generalize VM t=b at *;clear h26 hk;go_enter Tryz.func40,Tryz.ntmps40;go_wp2_with fail;refine hN.mono ?_;rintro e w1 ⟨rfl,hb1⟩;go_wp2_with fail;go_ret;exact⟨rfl,hb1⟩
 by_cases h27:k.toNat=27
 ·rw [h27];have hV:=VQ6 (w:=w) t ht;have hK:=fun w=>Num.MQ9 t w Cf
  rw [show AC ((27:Nat):Int) t=(kQ7 t||(Num.KQ5 t != 0)) from LQ7 t];generalize kQ7 t=v at *;generalize Num.KQ5 t=nk at *;clear h26 h27 hk;go_enter Tryz.func40,Tryz.ntmps40;go_wp2_with fail;refine hV.mono ?_;rintro e w1 ⟨⟨x,er,rfl,he⟩,hb1⟩;cases v with
  | true =>
   go_wp2_with fail;go_ret;exact⟨rfl,hb1⟩
  | false =>
   go_wp2_with fail;refine (hK _).mono ?_;rintro e w2 ⟨rfl,rfl⟩;go_wp2_with fail;go_ret;exact⟨rfl,hb1⟩
 ·rw [WQ7 hk h26 h27];obtain⟨n,hn⟩:∃ n,n=k.toNat:=⟨_,rfl⟩;have HR:=hid (jW (w:=w) k);rw [<- hn] at HR h26 h27 ⊢;have n26:((n:Int)==26)=false:=by simp;omega
  have n27:((n:Int)==27)=false:=Cn
  have HW:Hid ((rwT k).ws.length<=1000):=hid (dQ8 hk).2.2.2;clear hn hk h26 h27;unfold NJ;unfold sQ8 at HR;generalize rwT k=r at *;have HA:=hid (fun a w h=>dQ7 (w:=w) t a r.ws.length r.ws h HW.out);obtain⟨rn,rm,ro,rws⟩:=r
  dsimp only at HR HA HW ⊢
  generalize rws.contains t=cn at *;generalize rws.length=L at *;obtain⟨z,hz⟩:∃ z,z=(t==[]):=⟨_,rfl⟩;rw [<- hz];replace hz:=hz.symm;go_enter Tryz.func40,Tryz.ntmps40;go_wp2_with fail;refine HR.out.mono ?_;rintro e w1 ⟨⟨a,rfl,hws⟩,hb1⟩;have HA:=hid (HA.out a);go_upto_region 7 with fail;have hX:=heap_alloc_new w1 (Obj.cells #[Value.int IntKind.i64 rn,Value.bool rm,Value.bool ro,Value.slice a L L] 83);have hB:=hb1.alloc hb1.size (Obj.cells #[Value.int IntKind.i64 rn,Value.bool rm,Value.bool ro,Value.slice a L L] 83);have hws2:=hQ8 hws ((J' w1.heap.size w1).alloc (C' _) (Obj.cells #[Value.int IntKind.i64 rn,Value.bool rm,Value.bool ro,Value.slice a L L] 83));generalize w1.alloc (Obj.cells #[Value.int IntKind.i64 rn,Value.bool rm,Value.bool ro,Value.slice a L L] 83)=w2 at *;have HB:=hid hB;have HC:=hid (HA.out w2 hws2);obtain⟨c0,c1,c2,c3,f0,f1,f2,f3⟩:=dQ5 hX;clear hX hB hws hws2 hb1 HA;cases z <;> cases ro
  all_goals
   go_wp2_with (refine HC.out.mono ?_;rintro e w3 ⟨rfl,hw⟩;replace hw:=hw.symm;subst hw);go_ret;exact⟨rfl,HB.out⟩
end Ck
