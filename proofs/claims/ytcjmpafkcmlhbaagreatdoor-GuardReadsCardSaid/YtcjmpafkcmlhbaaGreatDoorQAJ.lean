import Derived.Deep.RegionHeld3
import Derived.Deep.AppendLies
import Derived.Deep.RegionLaw
import Derived.Test.YtcjmpafkcmlhbaaGreatDoorQAI
import Derived.Test.YtcjmpafkcmlhbaaGreatDoorQAG
namespace Go.Proofs.YtcjmpafkcmlhbaaGreatDoor
set_option linter.all false
set_option maxHeartbeats 40000000
set_option maxRecDepth 100000
namespace Grd
open Go.RowKit
def pcells (l:List Pt):List Value:=l.flatMap Pt.cells
def zvs (l:List Int):List Value:=l.map fun (n:Int)=>Value.int .i64 n
structure Cop (c:Nat) (LV FV vo vn:Value) (at':Int) (outs:List Pt) (nums:List Int) (w:World):Prop where
 blk:w.heap[c]?=some (.cells #[LV,FV,vo,vn,.int .i64 at'] 89 (0,0))
 own:w.ownsRow (c+1) 39 3 vo outs.length (pcells outs)
 onn:w.ownsRow (c+1) 3 1 vn nums.length (zvs nums)
 sep:∀ g,vo.ownBlock=some g→vn.ownBlock≠some g
theorem Cop.cell {c:Nat}{LV FV vo vn:Value}{at':Int}{outs:List Pt}{nums:List Int}{w:World} (h:Cop c LV FV vo vn at' outs nums w) :
  w.cell? ⟨c,0,none⟩=some LV∧w.cell? ⟨c,1,none⟩=some FV∧w.cell? ⟨c,2,none⟩=some vo∧w.cell? ⟨c,3,none⟩=some vn∧w.cell? ⟨c,4,none⟩=some (.int .i64 at')∧c < w.heap.size:=by
 have hb:=h.blk
 refine⟨?_,?_,?_,?_,?_,lt_of_block hb⟩ <;> simp [World.cell?,hb]
theorem Cop.free {c:Nat}{LV FV vo vn:Value}{at':Int}{outs:List Pt}{nums:List Int}{w:World} (h:Cop c LV FV vo vn at' outs nums w) (i:Nat):w.frozen? ⟨c,i,none⟩=false:=by
 have hb:=h.blk
 simp [World.frozen?,hb]
structure Trans (c:Nat) (vo vn:Value) (w:World) (vo' vn':Value) (w':World):Prop where
 os:w'.os=w.os
 tape:w'.tape=w.tape
 output:w'.output=w.output
 size:w.heap.size≤w'.heap.size
 block:∀ k,k < w.heap.size→k≠c→vo.ownBlock≠some k→vn.ownBlock≠some k→w'.heap[k]?=w.heap[k]?
 bo:∀ k,vo'.ownBlock=some k→vo.ownBlock=some k∨w.heap.size≤k
 bn:∀ k,vn'.ownBlock=some k→vn.ownBlock=some k∨w.heap.size≤k
theorem Trans.below {c:Nat}{vo vn:Value}{w w':World} (h:Below w.heap.size w w'):Trans c vo vn w vo vn w' :=
 ⟨h.os,h.tape,h.output,h.size,fun k hk _ _ _=>h.block k hk,fun _ h=>.inl h,fun _ h=>.inl h⟩
theorem Trans.trans {c:Nat}{vo vn vo1 vn1 vo2 vn2:Value}{w w1 w2:World} (h:Trans c vo vn w vo1 vn1 w1) (k:Trans c vo1 vn1 w1 vo2 vn2 w2):Trans c vo vn w vo2 vn2 w2:=by
 refine⟨k.os.trans h.os,k.tape.trans h.tape,k.output.trans h.output,Nat.le_trans h.size k.size,fun i hi h1 h2 h3=>?_,fun i hi=>?_,fun i hi=>?_⟩
 ·rw [k.block i (Nat.lt_of_lt_of_le hi h.size) h1 ?_ ?_,h.block i hi h1 h2 h3]
  ·intro e;rcases h.bo i e with e|e
   ·exact h2 e
   ·omega
  ·intro e;rcases h.bn i e with e|e
   ·exact h3 e
   ·omega
 ·rcases k.bo i hi with e|e
  ·exact h.bo i e
  ·exact .inr (Nat.le_trans h.size e)
 ·rcases k.bn i hi with e|e
  ·exact h.bn i e
  ·exact .inr (Nat.le_trans h.size e)
theorem ownsRow_below {w w':World}{base:Nat}{e:TypeId}{size:Nat}{v:Value}{n:Nat}{xs:List Value} (h:w.ownsRow base e size v n xs) (hb:Below w.heap.size w w'):w'.ownsRow base e size v n xs :=
 h.kept (row:=none) ⟨hb.os,hb.tape,hb.output,hb.size,fun k hk _=>hb.block k hk⟩ (by
  cases hv:v.ownBlock with
  | none=>exact .inl rfl
  | some g=>exact .inr (by simp))
theorem Cop.later {c:Nat}{LV FV vo vn:Value}{at':Int}{outs:List Pt}{nums:List Int}{w w':World} (h:Cop c LV FV vo vn at' outs nums w) (hb:Below w.heap.size w w'):Cop c LV FV vo vn at' outs nums w' :=
 ⟨by rw [hb.block c (lt_of_block h.blk)];exact h.blk,ownsRow_below h.own hb,ownsRow_below h.onn hb,h.sep⟩
theorem Tryz.infoPt:(Tryz.prog.info? 39).map (fun i=>(i.zero,i.size,i.bytes))=some (some (.agg #[.int .u8 0,.int .i64 0,.string ByteArray.empty]),3,32):=by kernel_rfl
theorem Cop.outed {c:Nat}{LV FV vo vn:Value}{at':Int}{outs:List Pt}{nums:List Int}{w w1:World}{p:Pt}{g cap:Nat}
  (h:Cop c LV FV vo vn at' outs nums w) (hown:w1.ownsRow (c+1) 39 3 (.slice (some ⟨g,0,none⟩) (outs.length+1) cap) (outs.length+1) (pcells outs++p.cells))
  (hgrow:w.grownBy w1 vo.ownBlock) (hat:vo.ownBlock=some g∨w.heap.size≤g) :
  Cop c LV FV (.slice (some ⟨g,0,none⟩) (outs.length+1) cap) vn at' (outs++[p]) nums (w1.setCell ⟨c,2,none⟩ (.slice (some ⟨g,0,none⟩) (outs.length+1) cap)) ∧
  Trans c vo vn w (.slice (some ⟨g,0,none⟩) (outs.length+1) cap) vn (w1.setCell ⟨c,2,none⟩ (.slice (some ⟨g,0,none⟩) (outs.length+1) cap)):=by
 have hc:=lt_of_block h.blk
 have hoc:∀ k,vo.ownBlock=some k→c+1≤k∧k < w.heap.size:=h.own.lt
 have hnc:∀ k,vn.ownBlock=some k→c+1≤k∧k < w.heap.size:=h.onn.lt
 have hgc:=(hown.lt g rfl).1
 have hblk1:w1.heap[c]?=w.heap[c]?:=hgrow.block c hc (fun e=>by have:=(hoc c e.symm).1;omega)
 have hset:w1.grownBy (w1.setCell ⟨c,2,none⟩ (.slice (some ⟨g,0,none⟩) (outs.length+1) cap)) (some c) :=
  ⟨rfl,rfl,rfl,by simp,fun k _ hk=>Below.heap_setCell _ _ _ _ (fun e=>hk (by rw [e]))⟩
 refine⟨⟨?_,?_,?_,?_⟩,?_⟩
 ·have:=heap_setCell_same w1 c 2 #[LV,FV,vo,vn,.int .i64 at'] 89 (.slice (some ⟨g,0,none⟩) (outs.length+1) cap) (by rw [hblk1];exact h.blk)
  rw [this];rfl
 ·have e1:pcells (outs++[p])=pcells outs++p.cells:=by simp [pcells]
  rw [List.length_append,e1]
  exact hown.kept hset (by right;simp [Value.ownBlock];omega)
 ·refine (h.onn.kept hgrow ?_).kept hset ?_
  ·cases hv:vn.ownBlock with
   | none=>exact .inl rfl
   | some k=>right;intro e;exact h.sep k e.symm hv
  ·cases hv:vn.ownBlock with
   | none=>exact .inl rfl
   | some k=>right;have:=(hnc k hv).1;simp;omega
 ·intro k hk e
  simp only [Value.ownBlock,Option.some.injEq] at hk
  subst hk
  rcases hat with hat|hat
  ·exact h.sep g hat e
  ·have:=(hnc g e).2;omega
 ·refine⟨hset.os.trans hgrow.os,hset.tape.trans hgrow.tape,hset.output.trans hgrow.output,Nat.le_trans hgrow.size hset.size,fun k hk h1 h2 h3=>?_,fun k hk=>?_,fun k hk=>.inl hk⟩
  ·rw [hset.block k (Nat.lt_of_lt_of_le hk hgrow.size) (by simpa using h1),hgrow.block k hk (fun e=>h2 e.symm)]
  ·simp only [Value.ownBlock,Option.some.injEq] at hk
   subst hk;exact hat
theorem Cop.numbered {c:Nat}{LV FV vo vn:Value}{at':Int}{outs:List Pt}{nums:List Int}{w w1:World}{x:Int}{g cap:Nat}
  (h:Cop c LV FV vo vn at' outs nums w) (hown:w1.ownsRow (c+1) 3 1 (.slice (some ⟨g,0,none⟩) (nums.length+1) cap) (nums.length+1) (zvs nums++[.int .i64 x]))
  (hgrow:w.grownBy w1 vn.ownBlock) (hat:vn.ownBlock=some g∨w.heap.size≤g) :
  Cop c LV FV vo (.slice (some ⟨g,0,none⟩) (nums.length+1) cap) at' outs (nums++[x]) (w1.setCell ⟨c,3,none⟩ (.slice (some ⟨g,0,none⟩) (nums.length+1) cap)) ∧
  Trans c vo vn w vo (.slice (some ⟨g,0,none⟩) (nums.length+1) cap) (w1.setCell ⟨c,3,none⟩ (.slice (some ⟨g,0,none⟩) (nums.length+1) cap)):=by
 have hc:=lt_of_block h.blk
 have hoc:∀ k,vo.ownBlock=some k→c+1≤k∧k < w.heap.size:=h.own.lt
 have hnc:∀ k,vn.ownBlock=some k→c+1≤k∧k < w.heap.size:=h.onn.lt
 have hgc:=(hown.lt g rfl).1
 have hblk1:w1.heap[c]?=w.heap[c]?:=hgrow.block c hc (fun e=>by have:=(hnc c e.symm).1;omega)
 have hset:w1.grownBy (w1.setCell ⟨c,3,none⟩ (.slice (some ⟨g,0,none⟩) (nums.length+1) cap)) (some c) :=
  ⟨rfl,rfl,rfl,by simp,fun k _ hk=>Below.heap_setCell _ _ _ _ (fun e=>hk (by rw [e]))⟩
 refine⟨⟨?_,?_,?_,?_⟩,?_⟩
 ·have:=heap_setCell_same w1 c 3 #[LV,FV,vo,vn,.int .i64 at'] 89 (.slice (some ⟨g,0,none⟩) (nums.length+1) cap) (by rw [hblk1];exact h.blk)
  rw [this];rfl
 ·refine (h.own.kept hgrow ?_).kept hset ?_
  ·cases hv:vo.ownBlock with
   | none=>exact .inl rfl
   | some k=>right;intro e;exact h.sep k hv e.symm
  ·cases hv:vo.ownBlock with
   | none=>exact .inl rfl
   | some k=>right;have:=(hoc k hv).1;simp;omega
 ·have e1:zvs (nums++[x])=zvs nums++[.int .i64 x]:=by simp [zvs]
  rw [List.length_append,e1]
  exact hown.kept hset (by right;simp [Value.ownBlock];omega)
 ·intro k hk e
  simp only [Value.ownBlock,Option.some.injEq] at e
  subst e
  rcases hat with hat|hat
  ·exact h.sep g hk hat
  ·have:=(hoc g hk).2;omega
 ·refine⟨hset.os.trans hgrow.os,hset.tape.trans hgrow.tape,hset.output.trans hgrow.output,Nat.le_trans hgrow.size hset.size,fun k hk h1 h2 h3=>?_,fun k hk=>.inl hk,fun k hk=>?_⟩
  ·rw [hset.block k (Nat.lt_of_lt_of_le hk hgrow.size) (by simpa using h1),hgrow.block k hk (fun e=>h3 e.symm)]
  ·simp only [Value.ownBlock,Option.some.injEq] at hk
   subst hk;exact hat
theorem Cop.moved {c:Nat}{LV FV vo vn:Value}{at':Int}{outs:List Pt}{nums:List Int}{w:World} (n:Int) (h:Cop c LV FV vo vn at' outs nums w) :
  Cop c LV FV vo vn n outs nums (w.setCell ⟨c,4,none⟩ (.int .i64 n))∧Trans c vo vn w vo vn (w.setCell ⟨c,4,none⟩ (.int .i64 n)):=by
 have hset:w.grownBy (w.setCell ⟨c,4,none⟩ (.int .i64 n)) (some c) :=
  ⟨rfl,rfl,rfl,by simp,fun k _ hk=>Below.heap_setCell _ _ _ _ (fun e=>hk (by rw [e]))⟩
 refine⟨⟨?_,h.own.kept hset ?_,h.onn.kept hset ?_,h.sep⟩,?_⟩
 ·have:=heap_setCell_same w c 4 #[LV,FV,vo,vn,.int .i64 at'] 89 (.int .i64 n) h.blk
  rw [this];rfl
 ·cases hv:vo.ownBlock with
  | none=>exact .inl rfl
  | some k=>right;have:=(h.own.lt k hv).1;simp;omega
 ·cases hv:vn.ownBlock with
  | none=>exact .inl rfl
  | some k=>right;have:=(h.onn.lt k hv).1;simp;omega
 ·exact⟨rfl,rfl,rfl,by simp,fun k hk h1 _ _=>hset.block k hk (by simpa using h1),fun k hk=>.inl hk,fun k hk=>.inl hk⟩
structure Lay (c b off fb foff:Nat) (m:Int) (l:List Pt) (fr:List Int) (w:World):Prop where
 pos:0 < c
 lb:b < c
 lf:fb < c
 len:fr.length=l.length
 mx:w.cell? ⟨0,0,none⟩=some (.int .i64 m)
 parts:∀ (j:Nat) (p:Pt),l[j]?=some p→w.cell? ⟨b,off+j*3,none⟩=some (.int .u8 (p.k.toNat:Int))∧w.cell? ⟨b,off+j*3+1,none⟩=some (.int .i64 p.n)∧w.cell? ⟨b,off+j*3+2,none⟩=some (.string ⟨p.w.toArray⟩)
 ints:∀ (j:Nat) (n:Int),fr[j]?=some n→w.cell? ⟨fb,foff+j,none⟩=some (.int .i64 n)
theorem cell_of_block {w w':World}{k i:Nat} (h:w'.heap[k]?=w.heap[k]?):w'.cell? ⟨k,i,none⟩=w.cell? ⟨k,i,none⟩:=by
 simp [World.cell?,h]
theorem Trans.low {c:Nat}{LV FV vo vn vo' vn':Value}{at':Int}{outs:List Pt}{nums:List Int}{w w':World} (hC:Cop c LV FV vo vn at' outs nums w) (hT:Trans c vo vn w vo' vn' w') {k:Nat} (hk:k < c) :
  w'.heap[k]?=w.heap[k]?:=by
 have:=lt_of_block hC.blk
 refine hT.block k (by omega) (by omega) (fun e=>?_) (fun e=>?_)
 ·have:=(hC.own.lt k e).1;omega
 ·have:=(hC.onn.lt k e).1;omega
theorem Lay.trans {c b off fb foff:Nat}{m:Int}{l:List Pt}{fr:List Int}{LV FV vo vn vo' vn':Value}{at':Int}{outs:List Pt}{nums:List Int}{w w':World} (h:Lay c b off fb foff m l fr w)
  (hC:Cop c LV FV vo vn at' outs nums w) (hT:Trans c vo vn w vo' vn' w'):Lay c b off fb foff m l fr w':=by
 have e0:∀ i,w'.cell? ⟨0,i,none⟩=w.cell? ⟨0,i,none⟩:=fun i=>cell_of_block (hT.low hC h.pos)
 have eb:∀ i,w'.cell? ⟨b,i,none⟩=w.cell? ⟨b,i,none⟩:=fun i=>cell_of_block (hT.low hC h.lb)
 have ef:∀ i,w'.cell? ⟨fb,i,none⟩=w.cell? ⟨fb,i,none⟩:=fun i=>cell_of_block (hT.low hC h.lf)
 refine⟨h.pos,h.lb,h.lf,h.len,by rw [e0];exact h.mx,fun j p hj=>?_,fun j n hj=>?_⟩
 ·rw [eb,eb,eb];exact h.parts j p hj
 ·rw [ef];exact h.ints j n hj
end Grd
namespace Grd
open Go.RowKit
def CopPost (c:Nat) (LV FV vo vn:Value) (w:World) (at2:Int) (outs2:List Pt) (nums2:List Int) (e:Ending) (w':World):Prop :=
 ∃ vo' vn',e=.returned (.tuple #[])∧Cop c LV FV vo' vn' at2 outs2 nums2 w'∧Trans c vo vn w vo' vn' w'
theorem Trans.keep {c:Nat}{vo vn vo' vn':Value}{w w':World} (hT:Trans c vo vn w vo' vn' w')
  {q:Nat} (hq:q < w.heap.size) (h1:q≠c) (h2:vo.ownBlock≠some q) (h3:vn.ownBlock≠some q) (i:Nat):w'.cell? ⟨q,i,none⟩=w.cell? ⟨q,i,none⟩ :=
 cell_of_block (hT.block q hq h1 h2 h3)
theorem put_gen (c b off lcap fb foff fcap:Nat) (m:Int) (l:List Pt) (fr:List Int) (vo vn:Value) (at':Nat) (outs outs2:List Pt) (nums nums2:List Int) (at2:Int) (p:Pt) (x:Int) (w:World)
  (hl:l.length≤1099511627776) (ho:outs.length≤2199023255552) (hno:nums.length≤2199023255552) (hat:at' < l.length) (hp:l[at']?=some p) (hx:fr[at']?=some x)
  (hC:Cop c (.slice (some ⟨b,off,none⟩) l.length lcap) (.slice (some ⟨fb,foff,none⟩) l.length fcap) vo vn (at':Int) outs nums w)
  (hL:Lay c b off fb foff m l fr w)
  (hE:∀ (vo1 vn1:Value) (w1:World),Cop c (.slice (some ⟨b,off,none⟩) l.length lcap) (.slice (some ⟨fb,foff,none⟩) l.length fcap) vo1 vn1 ((at':Int)+1) (outs++[p]) (nums++[x]) w1→Lay c b off fb foff m l fr w1 →
   Calls Tryz.prog 86 #[.pointer (some ⟨c,0,none⟩),.agg #[.int .u8 (p.k.toNat:Int),.int .i64 p.n,.string ⟨p.w.toArray⟩],.func (.func 37) #[.pointer (some ⟨c,0,none⟩)] #[]] w1 (CopPost c (.slice (some ⟨b,off,none⟩) l.length lcap) (.slice (some ⟨fb,foff,none⟩) l.length fcap) vo1 vn1 w1 at2 outs2 nums2)) :
  Calls Tryz.prog 37 #[.pointer (some ⟨c,0,none⟩)] w (CopPost c (.slice (some ⟨b,off,none⟩) l.length lcap) (.slice (some ⟨fb,foff,none⟩) l.length fcap) vo vn w at2 outs2 nums2):=by
 obtain⟨c0,c1,c2,c3,c4,hc⟩:=hC.cell
 obtain⟨p0,p1,p2⟩:=hL.parts at' p hp
 have b0:(0:Int)≤(at':Int):=by omega
 have b1:(at':Int) < (l.length:Int):=by omega
 obtain⟨i0,hi0,hz0,hz1,hz2⟩:=info_parts Tryz.infoPt
 obtain⟨i3,hi3,hz3,hz4,hz5⟩:=info_parts Tryz.infoI3
 go_enter Tryz.func37,Tryz.ntmps37
 go_wp2_with fail
 go_region_held3 (fun w'=>w'.cell? ⟨c,0,none⟩=some (.slice (some ⟨b,off,none⟩) l.length lcap)∧w'.cell? ⟨c,4,none⟩=some (.int .i64 at') ∧
   w'.cell? ⟨b,off+at'*3,none⟩=some (.int .u8 (p.k.toNat:Int))∧w'.cell? ⟨b,off+at'*3+1,none⟩=some (.int .i64 p.n)∧w'.cell? ⟨b,off+at'*3+2,none⟩=some (.string ⟨p.w.toArray⟩))
  (go_keep)
  (first|fail)
 go_wp2_with fail
 have hB1:Below w.heap.size w ((w.alloc (Obj.cells #[.int .u8 p.k.toNat,.int .i64 p.n,.string ⟨p.w.toArray⟩] 39)).drew):=((Below.refl _ _).alloc (Nat.le_refl _) _).drew
 have hC1:=hC.later hB1
 have hbx:((w.alloc (Obj.cells #[.int .u8 p.k.toNat,.int .i64 p.n,.string ⟨p.w.toArray⟩] 39)).drew).heap[w.heap.size]?=some (.cells #[.int .u8 p.k.toNat,.int .i64 p.n,.string ⟨p.w.toArray⟩] 39 (0,0)):=heap_alloc_new w _
 have hT1:Trans c vo vn w vo vn ((w.alloc (Obj.cells #[.int .u8 p.k.toNat,.int .i64 p.n,.string ⟨p.w.toArray⟩] 39)).drew):=.below hB1
 have hL1:=hL.trans hC hT1
 have hqo:vo.ownBlock≠some w.heap.size:=fun e=>by have:=(hC.own.lt _ e).2;omega
 have hqn:vn.ownBlock≠some w.heap.size:=fun e=>by have:=(hC.onn.lt _ e).2;omega
 generalize ((w.alloc (Obj.cells #[.int .u8 p.k.toNat,.int .i64 p.n,.string ⟨p.w.toArray⟩] 39)).drew)=w1 at *
 clear c0 c1 c2 c3 c4 p0 p1 p2 hB1
 obtain⟨c0,c1,c2,c3,c4,hc1⟩:=hC1.cell
 have f2:=hC1.free 2
 have hq:=lt_of_block hbx
 generalize w.heap.size=q at *
 have hqc:q≠c:=by omega
 have q0:w1.cell? ⟨q,0,none⟩=some (.int .u8 p.k.toNat):=by simp [World.cell?,hbx]
 have q1:w1.cell? ⟨q,1,none⟩=some (.int .i64 p.n):=by simp [World.cell?,hbx]
 have q2:w1.cell? ⟨q,2,none⟩=some (.string ⟨p.w.toArray⟩):=by simp [World.cell?,hbx]
 have hown:=hC1.own
 have hoc:vo.ownBlock≠some c:=fun e=>by have:=(hown.lt c e).1;omega
 have hfz:∀ o,(w1.alloc o).frozen? ⟨c,2,none⟩=false:=fun o=>by rw [World.frozen?_alloc_old _ _ _ (by simp;omega)];exact f2
 have hCc:∀ o,(w1.alloc o).cell? ⟨c,2,none⟩=some vo:=fun o=>by rw [((Below.refl w1.heap.size w1).alloc (Nat.le_refl _) o).cell hc1];exact c2
 have hB:∀ o,Below w1.heap.size w1 (w1.alloc o).drew:=fun o=>((Below.refl w1.heap.size w1).alloc (Nat.le_refl _) o).drew
 have HX:=Lib.hid hx
 clear hx
 go_cut [] (fun wx=>∃ vo1,Cop c (.slice (some ⟨b,off,none⟩) l.length lcap) (.slice (some ⟨fb,foff,none⟩) l.length fcap) vo1 vn (at':Int) (outs++[p]) nums wx∧Trans c vo vn w1 vo1 vn wx)
 case first =>
  go_region_law ((refine step_append_lies _ (by rfl) _ _ _ (by rfl) (c+1) 39 i0 _ 3 32 Tryz.underlying22 hi0 hz0 hz1 hz2 rfl (by omega) vo outs.length (pcells outs) (by rfl) ((hown.alloc _).drew) ⟨w1.heap.size,0,none⟩ 1 1 p.cells (by rfl) (by rfl) (World.news_of_block (cs:=#[.int .u8 p.k.toNat,.int .i64 p.n,.string ⟨p.w.toArray⟩]) (t:=39) (fr:=(0,0)) (heap_alloc_new w1 _)) (by simp [Pt.cells,Value.oneCell']) (by omega) (by unfold maxLen;omega) (by omega) (by simp;omega) (w1.heap.size+1) (by simp) ?_;intro gg cap w2 hown2 hgrow2 hat2 hlt2;have k2:w2.cell? ⟨c,2,none⟩=some vo:=(hgrow2.cell_far _ (by simp;omega) (Ne.symm hoc)).trans (hCc _);have z2:w2.frozen? ⟨c,2,none⟩=false:=(hgrow2.frozen_far _ (by simp;omega) (Ne.symm hoc)).trans (hfz _)))
  all_goals (go_wp2_with fail;go_meet)
  all_goals (have hX:=Cop.outed (hC1.later (hB _)) hown2 hgrow2 (hat2.imp id (fun e=>by rw [e];simp)))
  all_goals exact⟨_,hX.1,(Trans.below (hB _)).trans hX.2⟩
 case rest =>
  obtain⟨vo1,hC2,hT2⟩:=hcut
  have hL2:=hL1.trans hC1 hT2
  have hq1:=Trans.keep hT2 hq hqc hqo hqn
  rw [← hq1] at q0 q1 q2
  have hqo1:vo1.ownBlock≠some q:=fun e=>by rcases hT2.bo q e with e|e;exact hqo e;omega
  have hqs:q < wc.heap.size:=Nat.lt_of_lt_of_le hq hT2.size
  have hT3:=hT1.trans hT2
  clear c0 c1 c2 c3 c4 f2 hown hoc hfz hCc hB hT1 hT2 hC1 hL1 hbx hq1
  obtain⟨wd,hwd⟩:∃ wd,wd=wc:=⟨_,rfl⟩
  subst hwd
  obtain⟨c0,c1,c2,c3,c4,hc2⟩:=hC2.cell
  have f3:=hC2.free 3
  have hown:=hC2.onn
  have hnc:vn.ownBlock≠some c:=fun e=>by have:=(hown.lt c e).1;omega
  have hfz:∀ o,(wd.alloc o).frozen? ⟨c,3,none⟩=false:=fun o=>by rw [World.frozen?_alloc_old _ _ _ (by simp;omega)];exact f3
  have hCc:∀ o,(wd.alloc o).cell? ⟨c,3,none⟩=some vn:=fun o=>by rw [((Below.refl wd.heap.size wd).alloc (Nat.le_refl _) o).cell hc2];exact c3
  have hB:∀ o,Below wd.heap.size wd (wd.alloc o).drew:=fun o=>((Below.refl wd.heap.size wd).alloc (Nat.le_refl _) o).drew
  have hy:=hL2.ints at' x HX.out
  have hfb:fb < wd.heap.size:=by have:=hL2.lf;omega
  have hya:∀ o,(wd.alloc o).cell? ⟨fb,foff+at',none⟩=some (.int .i64 x):=fun o=>by rw [((Below.refl wd.heap.size wd).alloc (Nat.le_refl _) o).cell hfb];exact hy
  go_wp2_with fail
  go_cut [] (fun wx=>∃ vn1,Cop c (.slice (some ⟨b,off,none⟩) l.length lcap) (.slice (some ⟨fb,foff,none⟩) l.length fcap) vo1 vn1 (at':Int) (outs++[p]) (nums++[x]) wx∧Trans c vo1 vn wd vo1 vn1 wx)
  case first =>
   go_region_law ((refine step_append_lies _ (by rfl) _ _ _ (by rfl) (c+1) 3 i3 _ 1 8 Tryz.underlying51 hi3 hz3 hz4 hz5 rfl (by omega) vn nums.length (zvs nums) (by rfl) ((hown.alloc _).drew) ⟨wd.heap.size,0,none⟩ 1 1 [.int .i64 x] (by rfl) (by rfl) (World.news_of_block (cs:=#[.int .i64 x]) (t:=3) (fr:=(0,0)) (heap_alloc_new wd _)) (by simp [Value.oneCell']) (by omega) (by unfold maxLen;omega) (by omega) (by simp;omega) (wd.heap.size+1) (by simp) ?_;intro gg cap w2 hown2 hgrow2 hat2 hlt2;have k2:w2.cell? ⟨c,3,none⟩=some vn:=(hgrow2.cell_far _ (by simp;omega) (Ne.symm hnc)).trans (hCc _);have z2:w2.frozen? ⟨c,3,none⟩=false:=(hgrow2.frozen_far _ (by simp;omega) (Ne.symm hnc)).trans (hfz _)))
   all_goals (go_wp2_with fail;go_meet)
   all_goals (have hX:=Cop.numbered (hC2.later (hB _)) hown2 hgrow2 (hat2.imp id (fun e=>by rw [e];simp)))
   all_goals exact⟨_,hX.1,(Trans.below (hB _)).trans hX.2⟩
  case rest =>
   obtain⟨vn1,hC3,hT4⟩:=hcut
   have hL3:=hL2.trans hC2 hT4
   have hq1:=Trans.keep hT4 hqs hqc hqo1 hqn
   rw [← hq1] at q0 q1 q2
   have hqn1:vn1.ownBlock≠some q:=fun e=>by rcases hT4.bn q e with e|e;exact hqn e;omega
   have hqs2:q < wc.heap.size:=Nat.lt_of_lt_of_le hqs hT4.size
   have hT5:=hT3.trans hT4
   clear c0 c1 c2 c3 c4 f3 hown hnc hfz hCc hB hT3 hT4 hC2 hL2 hq1 hy hya
   obtain⟨c0,c1,c2,c3,c4,hc3⟩:=hC3.cell
   have f4:=hC3.free 4
   go_wp2_with fail
   have hM:=hC3.moved ((at':Int)+1)
   refine (hE vo1 vn1 _ hM.1 (hL3.trans hC3 hM.2)).mono ?_
   rintro e w9 ⟨vo9,vn9,rfl,hC9,hT9⟩
   have hT8:=(hT5.trans hM.2).trans hT9
   clear hM c0 c1 c2 c3 c4 f4 hE hT5 hT9 hL3
   go_wp2_with fail
   go_end0
   exact⟨vo9,vn9,rfl,hC9,hT8⟩
end Grd
end Go.Proofs.YtcjmpafkcmlhbaaGreatDoor
