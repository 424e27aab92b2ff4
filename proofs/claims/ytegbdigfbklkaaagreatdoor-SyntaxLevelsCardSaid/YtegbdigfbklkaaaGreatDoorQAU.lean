import Derived.BigQuiet
import Derived.Test.YtegbdigfbklkaaaGreatDoorQAG
import Derived.Test.YtegbdigfbklkaaaGreatDoorQAT
namespace Go.Proofs.YtegbdigfbklkaaaGreatDoor
set_option linter.all false
set_option maxHeartbeats 40000000
set_option maxRecDepth 100000
section
open Go.RowKit
variable {w:World}
def frV (f:Fm):List Value:=[.int .i64 (f.node:Int),.int .i64 (f.left:Int),.int .i64 (f.done:Int)]
def frs (l:List Fm):List Value:=l.flatMap frV
theorem frs_snoc (l:List Fm) (f:Fm):frs (l++[f])=frs l++frV f:=by simp [frs]
theorem frs_len:∀ l:List Fm,(frs l).length=l.length*3
 | []=>rfl
 | f::l=>by
  have:=frs_len l
  unfold frs at this ⊢
  rw [List.flatMap_cons,List.length_append,this]
  simp only [frV,List.length_cons,List.length_nil]
  omega
theorem frs_at (l:List Fm) (f:Fm) (j m:Nat) (hm:m=l.length):(frs (l++[f]))[m*3+j]?=(frV f)[j]?:=by
 rw [frs_snoc,List.getElem?_append_right (by rw [frs_len];omega),frs_len,hm,Nat.add_sub_cancel_left]
theorem frs_set (l:List Fm) (f:Fm) (j m:Nat) (v:Value) (hm:m=l.length):(frs (l++[f])).set (m*3+j) v=frs l++(frV f).set j v:=by
 rw [frs_snoc,List.set_append_right _ _ (by rw [frs_len];omega),frs_len,hm,Nat.add_sub_cancel_left]
theorem frs_take (l:List Fm) (f:Fm) (m:Nat) (hm:m=l.length):(frs (l++[f])).take (m*3)=frs l:=by
 rw [frs_snoc,hm,← frs_len,List.take_left]
theorem Tryz.infoFm:(Tryz.prog.info? 86).map (fun i=>(i.zero,i.size,i.bytes))=some (some (.agg #[.int .i64 0,.int .i64 0,.int .i64 0]),3,24):=by kernel_rfl
def NdsAt (w:World) (b off:Nat) (L:List Nd5):Prop:=∀ j x,L[j]?=some x →
 w.cell? ⟨b,off+j*5,none⟩=some (.int .u8 (x.kind.toNat:Int))∧w.cell? ⟨b,off+j*5+1,none⟩=some (.int .i64 (x.kids:Int))∧w.cell? ⟨b,off+j*5+2,none⟩=some (.int .i64 x.word) ∧
 w.cell? ⟨b,off+j*5+3,none⟩=some (.int .i64 (x.fr:Int))∧w.cell? ⟨b,off+j*5+4,none⟩=some (.int .i64 (x.till:Int))
theorem NdsAt.later {b off:Nat}{L:List Nd5}{w w':World} (h:NdsAt w b off L) (hb:b < w.heap.size) (hB:Below w.heap.size w w'):NdsAt w' b off L:=fun j x hj=>by
 obtain⟨h0,h1,h2,h3,h4⟩:=h j x hj
 exact⟨by rw [hB.cell (by exact hb)];exact h0,by rw [hB.cell (by exact hb)];exact h1,by rw [hB.cell (by exact hb)];exact h2,by rw [hB.cell (by exact hb)];exact h3,by rw [hB.cell (by exact hb)];exact h4⟩
theorem results_tmp4' {fn:Func}{t u v x:Tmp} (h:fn.results=#[.tmp t,.tmp u,.tmp v,.tmp x]) (tmps:Array Value) (P:Program) (w:World) :
  (results fn tmps).run P w=.ok (.tuple #[tmps.getD t undef,tmps.getD u undef,tmps.getD v undef,tmps.getD x undef]) w:=by
 simp [results,h]
structure Outl (w0:World) (n:Nat) (b1 b2:Nat) (st:List Fm) (vs:Value) (w:World):Prop where
 ends:∃ xs,w.ownsRow w0.heap.size 3 1 (.slice (some ⟨b1,0,none⟩) n n) n xs
 ups:∃ xs,w.ownsRow w0.heap.size 3 1 (.slice (some ⟨b2,0,none⟩) n n) n xs
 stk:w.ownsRow (w0.heap.size+2) 86 3 vs st.length (frs st.reverse)
 two:b1≠b2∧b1 < w0.heap.size+2∧b2 < w0.heap.size+2
 bel:Below w0.heap.size w0 w
variable {w0:World}{n b1 b2:Nat}{st:List Fm}{vs:Value}
theorem Outl.later {w':World} (h:Outl w0 n b1 b2 st vs w) (hb:Below w.heap.size w w'):Outl w0 n b1 b2 st vs w':=by
 obtain⟨xs,h1⟩:=h.ends
 obtain⟨ys,h2⟩:=h.ups
 exact⟨⟨xs,own_fr h1 (Fr.below hb) (X:=[]) (by simp)⟩,⟨ys,own_fr h2 (Fr.below hb) (X:=[]) (by simp)⟩,own_fr h.stk (Fr.below hb) (X:=[]) (by simp),h.two,h.bel.trans (hb.mono h.bel.size)⟩
theorem Outl.put (h:Outl w0 n b1 b2 st vs w) (b j:Nat) (u:Value) (hb:b=b1∨b=b2) (hj:j < n) :
  (∃ v,w.cell? ⟨b,j,none⟩=some v)∧w.frozen? ⟨b,j,none⟩=false∧Outl w0 n b1 b2 st vs (w.setCell ⟨b,j,none⟩ u):=by
 obtain⟨xs,h1⟩:=h.ends
 obtain⟨ys,h2⟩:=h.ups
 have l1:=(h1.lt b1 rfl).1
 have l2:=(h2.lt b2 rfl).1
 have h3:∀ g,vs.ownBlock=some g→w0.heap.size+2≤g:=fun g hg=>(h.stk.lt g hg).1
 obtain⟨t1,t2,t3⟩:=h.two
 have hs:vs.ownBlock≠some b:=fun e=>by have:=h3 b e;rcases hb with rfl|rfl <;> omega
 have hF:Fr [b] w (w.setCell ⟨b,j,none⟩ u):=Fr.set (a:=⟨b,j,none⟩)
 have hB:Below w0.heap.size w0 (w.setCell ⟨b,j,none⟩ u):=h.bel.setCell (p:=⟨b,j,none⟩) (by rcases hb with rfl|rfl <;> assumption) u
 have hstk:=own_fr h.stk hF (by intro x hx;simp only [List.mem_singleton] at hx;subst hx;exact hs)
 rcases hb with rfl|rfl
 ·have hc:=h1.cellAt j (by omega)
  have hlen:=h1.1
  rw [List.getElem?_eq_getElem (by omega)] at hc
  exact⟨⟨_,hc⟩,h1.frozenAt j,⟨_,(h1.stored j u).1⟩,⟨ys,own_fr h2 hF (by simp [Value.ownBlock];omega)⟩,hstk,h.two,hB⟩
 ·have hc:=h2.cellAt j (by omega)
  have hlen:=h2.1
  rw [List.getElem?_eq_getElem (by omega)] at hc
  exact⟨⟨_,hc⟩,h2.frozenAt j,⟨xs,own_fr h1 hF (by simp [Value.ownBlock];omega)⟩,⟨_,(h2.stored j u).1⟩,hstk,h.two,hB⟩
theorem Outl.size (h:Outl w0 n b1 b2 st vs w):w0.heap.size+2≤w.heap.size:=by
 obtain⟨xs,h1⟩:=h.ends
 obtain⟨ys,h2⟩:=h.ups
 obtain⟨l1,l2⟩:=h1.lt b1 rfl
 obtain⟨l3,l4⟩:=h2.lt b2 rfl
 have:=h.two
 omega
theorem Outl.top {f:Fm}{fs:List Fm} (h:Outl w0 n b1 b2 (f::fs) vs w):∃ g c,vs=.slice (some ⟨g,0,none⟩) (fs.length+1) c∧w0.heap.size+2≤g∧g < w.heap.size ∧
  w.cell? ⟨g,fs.length*3,none⟩=some (.int .i64 (f.node:Int))∧w.cell? ⟨g,fs.length*3+1,none⟩=some (.int .i64 (f.left:Int))∧w.cell? ⟨g,fs.length*3+2,none⟩=some (.int .i64 (f.done:Int)) ∧
  (∀ j,w.frozen? ⟨g,j,none⟩=false)∧∃ cur,w.heap[g]?=some (.cells cur 86 (0,0)):=by
 have hs:=h.stk
 rw [List.reverse_cons,List.length_cons] at hs
 rcases hs.2 with ⟨_,h0⟩|⟨g,c,cur,rfl,_,hcu,_⟩
 ·omega
 have hc:=fun j hj=>hs.cellAt (fs.length*3+j) (show fs.length*3+j < (fs.length+1)*3 by omega)
 obtain⟨l1,l2⟩:=hs.lt g rfl
 have h0:=hs.cellAt (fs.length*3+0) (by omega)
 have h1:=hs.cellAt (fs.length*3+1) (by omega)
 have h2:=hs.cellAt (fs.length*3+2) (by omega)
 rw [frs_at _ _ _ _ (by simp)] at h0 h1 h2
 exact⟨g,c,rfl,l1,l2,h0,h1,h2,hs.frozenAt,_,hcu⟩
theorem Outl.topm {f:Fm}{fs:List Fm}{g c m:Nat} (h:Outl w0 n b1 b2 (f::fs) (.slice (some ⟨g,0,none⟩) (m+1) c) w) (hm:m=fs.length):w.cell? ⟨g,m*3,none⟩=some (.int .i64 (f.node:Int))∧w.cell? ⟨g,m*3+1,none⟩=some (.int .i64 (f.left:Int))∧w.cell? ⟨g,m*3+2,none⟩=some (.int .i64 (f.done:Int))∧∀ j,w.frozen? ⟨g,j,none⟩=false:=by
 subst hm
 obtain⟨g',c',e,_,_,h0,h1,h2,h3,_⟩:=h.top
 cases e
 exact⟨h0,h1,h2,h3⟩
theorem Outl.set1 {f:Fm}{fs:List Fm}{g c m:Nat} (h:Outl w0 n b1 b2 (f::fs) (.slice (some ⟨g,0,none⟩) (m+1) c) w) (hm:m=fs.length) (x:Nat) (y:Int) (hy:y=(x:Int)) (hg:w0.heap.size+2≤g):Outl w0 n b1 b2 (⟨f.node,x,f.done⟩::fs) (.slice (some ⟨g,0,none⟩) (m+1) c) (w.setCell ⟨g,m*3+1,none⟩ (.int .i64 y)):=by
 subst hm
 subst hy
 obtain⟨xs,h1⟩:=h.ends
 obtain⟨ys,h2⟩:=h.ups
 obtain⟨t1,t2,t3⟩:=h.two
 have hs:=h.stk
 rw [List.reverse_cons,List.length_cons] at hs
 have hF:Fr [g] w (w.setCell ⟨g,fs.length*3+1,none⟩ (.int .i64 (x:Int))):=Fr.set (a:=⟨g,fs.length*3+1,none⟩)
 have e:=(hs.stored (fs.length*3+1) (.int .i64 (x:Int))).1
 rw [frs_set _ _ _ _ _ (by simp)] at e
 refine⟨⟨xs,own_fr h1 hF (by simp [Value.ownBlock];omega)⟩,⟨ys,own_fr h2 hF (by simp [Value.ownBlock];omega)⟩,?_,h.two,h.bel.setCell (p:=⟨g,fs.length*3+1,none⟩) (by show _≤g;omega) _⟩
 rw [List.reverse_cons,List.length_cons,frs_snoc]
 exact e
theorem Outl.set2 {f:Fm}{fs:List Fm}{g c m:Nat} (h:Outl w0 n b1 b2 (f::fs) (.slice (some ⟨g,0,none⟩) (m+1) c) w) (hm:m=fs.length) (x:Nat) (y:Int) (hy:y=(x:Int)) (hg:w0.heap.size+2≤g):Outl w0 n b1 b2 (⟨f.node,f.left,x⟩::fs) (.slice (some ⟨g,0,none⟩) (m+1) c) (w.setCell ⟨g,m*3+2,none⟩ (.int .i64 y)):=by
 subst hm
 subst hy
 obtain⟨xs,h1⟩:=h.ends
 obtain⟨ys,h2⟩:=h.ups
 obtain⟨t1,t2,t3⟩:=h.two
 have hs:=h.stk
 rw [List.reverse_cons,List.length_cons] at hs
 have hF:Fr [g] w (w.setCell ⟨g,fs.length*3+2,none⟩ (.int .i64 (x:Int))):=Fr.set (a:=⟨g,fs.length*3+2,none⟩)
 have e:=(hs.stored (fs.length*3+2) (.int .i64 (x:Int))).1
 rw [frs_set _ _ _ _ _ (by simp)] at e
 refine⟨⟨xs,own_fr h1 hF (by simp [Value.ownBlock];omega)⟩,⟨ys,own_fr h2 hF (by simp [Value.ownBlock];omega)⟩,?_,h.two,h.bel.setCell (p:=⟨g,fs.length*3+2,none⟩) (by show _≤g;omega) _⟩
 rw [List.reverse_cons,List.length_cons,frs_snoc]
 exact e
theorem Outl.off {f:Fm}{fs:List Fm}{g c:Nat} (h:Outl w0 n b1 b2 (f::fs) (.slice (some ⟨g,0,none⟩) (fs.length+1) c) w):Outl w0 n b1 b2 fs (.slice (some ⟨g,0,none⟩) fs.length c) w:=by
 have hs:=h.stk
 rw [List.reverse_cons,List.length_cons] at hs
 have:=Grd.own_take (m:=fs.length) (by omega) hs
 rw [frs_take _ _ _ (by simp)] at this
 exact⟨h.ends,h.ups,this,h.two,h.bel⟩
theorem Outl.on {w':World}{f:Fm}{v':Value}{k:Nat}{xs:List Value} (h:Outl w0 n b1 b2 st vs w) (ho:w'.ownsRow (w0.heap.size+2) 86 3 v' k xs) (hk:k=st.length+1) (hx:xs=frs st.reverse++frV f) (hg:w.grownBy w' vs.ownBlock):Outl w0 n b1 b2 (f::st) v' w':=by
 obtain⟨xs1,h1⟩:=h.ends
 obtain⟨ys,h2⟩:=h.ups
 obtain⟨t1,t2,t3⟩:=h.two
 have l3:∀ g,vs.ownBlock=some g→w0.heap.size+2≤g:=fun g hg=>(h.stk.lt g hg).1
 refine⟨⟨xs1,h1.kept hg (.inr fun e=>?_)⟩,⟨ys,h2.kept hg (.inr fun e=>?_)⟩,?_,h.two,h.bel.grown hg h.bel.size (fun g e=>by have:=l3 g e;omega)⟩
 ·have:=l3 b1 e.symm;omega
 ·have:=l3 b2 e.symm;omega
 ·subst hk;subst hx
  rw [List.reverse_cons,List.length_cons,frs_snoc]
  exact ho
theorem outline_walk (b off cap n:Nat) (t:Tr) (hL:Lies t) (hn:t.to≤n) (hN:n≤131072) (hc:cnt t≤1000000000) (hb:b < w.heap.size) (hA:NdsAt w b off (nodes t)) :
  Calls Tryz.prog 23 #[.slice (some ⟨b,off,none⟩) (nodes t).length cap,.int .i64 (n:Int)] w (fun e w'=>(∃ v1 v2 v3,e=.returned (.tuple #[v1,v2,v3,.bool true]))∧Below w.heap.size w w'):=by
 obtain⟨i0,hi,hz0,hz1,hz2⟩:=info_parts Grd.Tryz.infoI3
 obtain⟨i4,hi4,hy0,hy1,hy2⟩:=info_parts Tryz.infoFm
 have hlen:=nodes_len t
 have hlp:=cnt_pos t
 obtain⟨L,hLL⟩:∃ L,L=nodes t:=⟨_,rfl⟩
 have hfirst:=Pend.first hL hn
 rw [← hLL] at hA hlen hfirst ⊢
 have HF:=Lib.hid hfirst
 clear hfirst hLL hL hn
 have hl0:1≤L.length:=by omega
 have hl1:L.length≤1000000000:=by omega
 clear hlen hlp hc
 obtain⟨len,hlen⟩:∃ len,len=L.length:=⟨_,rfl⟩
 rw [← hlen] at HF hl0 hl1 ⊢
 have HLN:=Lib.hid hlen
 clear hlen
 obtain⟨O,hO⟩:∃ O,O=Obj.cells (madeCells (Value.int .i64 0).cells (len*1)) 3:=⟨_,rfl⟩
 have hmk:∀ w:World,(Instr.makeSlice 32 (.int .i64 (len:Int)) (.int .i64 (len:Int))).run Tryz.prog w=.ok (.slice (some ⟨w.heap.size,0,none⟩) len len) (w.alloc O):=fun w=>by
  have:=run_make (P:=Tryz.prog) w 32 3 i0 (.int .i64 0) Tryz.underlying32 hi hz0 .i64 .i64 len len (by omega) (Int.le_refl _) (by rw [hz2];omega) (by omega)
  rw [hz1] at this
  rw [hO]
  simpa using this
 have hrow:∀ w':World,∀ base,base≤w'.heap.size→∃ xs,(w'.alloc O).ownsRow base 3 1 (.slice (some ⟨w'.heap.size,0,none⟩) len len) len xs:=fun w' base h=>by
  rw [hO]
  exact⟨_,World.ownsRow_lit w' _ len h (by unfold maxLen;omega) (by simp [size_madeCells])⟩
 obtain⟨xs1,hr1⟩:=hrow w w.heap.size (Nat.le_refl _)
 obtain⟨xs2,hr2⟩:=hrow (w.alloc O) w.heap.size (by simp)
 have hB2:=(((Below.refl w.heap.size w).alloc (Nat.le_refl _) O).alloc (by simp) O).drew
 have hr1':=own_fr (own_fr hr1 (Fr.below (X:=[]) ((Below.refl _ _).alloc (Nat.le_refl _) O)) (by simp)) (Fr.below (X:=[]) ((Below.refl _ _).drew)) (by simp)
 have hr2':=own_fr hr2 (Fr.below (X:=[]) ((Below.refl _ _).drew)) (by simp)
 rw [World.size_alloc] at hr2'
 have HR:=Lib.hid (And.intro hr1' (And.intro hr2' hB2))
 clear hrow hr1 hr2 hr1' hr2' hB2 hO
 go_enter Tryz.func23,Tryz.ntmps23
 go_upto_region 1 with fail
 go_cut [4,5] (fun v4 v5 wx=>∃ b1 b2,v4=.slice (some ⟨b1,0,none⟩) len len∧v5=.slice (some ⟨b2,0,none⟩) len len∧Outl w len b1 b2 [] (.slice none 0 0) wx)
 case first =>
  go_region
  all_goals (go_wp2_with fail;go_meet)
  ·exact⟨_,_,rfl,rfl,⟨_,HR.out.1⟩,⟨_,HR.out.2.1⟩,World.ownsRow_nil _ _ _ _,by omega,HR.out.2.2⟩
  ·exact⟨_,_,rfl,rfl,⟨_,HR.out.2.1⟩,⟨_,HR.out.1⟩,World.ownsRow_nil _ _ _ _,by omega,HR.out.2.2⟩
 case rest =>
  obtain⟨b1,b2,rfl,rfl,hOut⟩:=hcut
  clear hmk HR
  go_wp2_with fail
  go_loopg [4,5,6,8,21] len (fun j v4 v5 v6 v8 v21 wr=>∃ (i:Nat) (st:List Fm) (d:Int),v4=.slice (some ⟨b1,0,none⟩) len len∧v5=.slice (some ⟨b2,0,none⟩) len len∧v21=.int .i64 (i:Int)∧v6=.int .i64 d∧i+j=len∧st.length≤i∧Outl w len b1 b2 st v8 wr∧(i=0∧st=[]∨0 < i∧Pend n L i st (L.drop i)∧∀ f l,st=f::l→f.left≠0))
  case atStart=>exact⟨0,[],0,rfl,rfl,rfl,rfl,by omega,Nat.le_refl _,hOut,.inl ⟨rfl,rfl⟩⟩
  case round =>
   obtain⟨i,st,d,rfl,rfl,rfl,rfl,hj,hfew,hO,hP⟩:=hrel
   by_cases hil:i < len
   ·obtain⟨x,hx⟩:∃ x,L[i]?=some x:=⟨L[i]'(by have:=HLN.out;omega),List.getElem?_eq_getElem _⟩
    have hdr:L.drop i=x::L.drop (i+1):=by
     have:=List.drop_eq_getElem_cons (show i < L.length by have:=HLN.out;omega)
     rw [List.getElem?_eq_getElem (show i < L.length by have:=HLN.out;omega)] at hx
     cases hx;exact this
    have hkey:NodeOk n len x∧(i=0∧st=[]∧Pend n L (i+1) [⟨i,x.kids,x.fr⟩] (L.drop (i+1))∨0 < i∧∃ f fs u,st=f::fs∧L[f.node]?=some u∧f.node < i∧1≤f.left∧f.left≤1000000000∧KidOk f u x∧Pend n L (i+1) (⟨i,x.kids,x.fr⟩::⟨f.node,f.left - 1,x.till⟩::fs) (L.drop (i+1))):=by
     rcases hP with ⟨rfl,rfl⟩|⟨h0,hp,hnz⟩
     ·obtain⟨y,r,e1,e2,e3⟩:=HF.out
      rw [e1] at hx hdr
      simp only [List.getElem?_cons_zero,Option.some.injEq] at hx
      subst hx
      refine⟨e2,.inl ⟨rfl,rfl,?_⟩⟩
      have:L.drop (0+1)=r:=by rw [e1];rfl
      rw [this];exact e3
     ·rw [hdr] at hp
      obtain⟨f,fs,rfl⟩:=hp.more
      have hf:=hnz f fs rfl
      obtain⟨u,e1,e2,e3,e5,e4⟩:=hp.step hdr hf
      obtain⟨_,_,hlt,_⟩:=hp.node
      rw [← HLN.out] at e2
      exact⟨e2,.inr ⟨h0,f,fs,u,rfl,e1,hlt,by omega,by have:=HLN.out;omega,e3,e4⟩⟩
    obtain⟨hNd,hP2⟩:=hkey
    obtain⟨c0,c1,c2,c3,c4⟩:=(hA.later hb (hO.bel.mono (Nat.le_refl _))) i x hx
    have HX:=Lib.hid hx
    have HP2:=Lib.hid hP2
    have HD:=Lib.hid hdr
    clear hP hx hdr hP2
    have hk1:x.kind.toNat≤68:=hNd.kind
    have hk2:=hNd.kids
    have hk3:=hNd.le
    have hk4:=hNd.till
    have d1:decide (68 < (x.kind.toNat:Int))=false:=by simp;omega
    have d2:decide ((x.kids:Int) < 0)=false:=by simp
    have d3:decide ((len:Int) < (x.kids:Int))=false:=by simp;omega
    have d4:decide ((x.fr:Int) < 0)=false:=by simp
    have d5:decide ((x.till:Int) < (x.fr:Int))=false:=by simp;omega
    have d6:decide ((n:Int) < (x.till:Int))=false:=by simp;omega
    have hnw:=heap_alloc_new wr (Obj.cells #[.int .u8 (x.kind.toNat:Int),.int .i64 (x.kids:Int),.int .i64 x.word,.int .i64 (x.fr:Int),.int .i64 (x.till:Int)] 47)
    go_upto_region 8 with fail
    have hB1:=(Below.refl wr.heap.size wr).alloc (Nat.le_refl _) (Obj.cells #[.int .u8 (x.kind.toNat:Int),.int .i64 (x.kids:Int),.int .i64 x.word,.int .i64 (x.fr:Int),.int .i64 (x.till:Int)] 47)
    have hO1:=hO.later hB1
    have hxlt:wr.heap.size < (wr.alloc (Obj.cells #[.int .u8 (x.kind.toNat:Int),.int .i64 (x.kids:Int),.int .i64 x.word,.int .i64 (x.fr:Int),.int .i64 (x.till:Int)] 47)).heap.size:=by simp
    have hbr:=hO.size
    clear c0 c1 c2 c3 c4 hO hB1
    generalize wr.alloc (Obj.cells #[.int .u8 (x.kind.toNat:Int),.int .i64 (x.kids:Int),.int .i64 x.word,.int .i64 (x.fr:Int),.int .i64 (x.till:Int)] 47)=w1 at *
    have x0:w1.cell? ⟨wr.heap.size,0,none⟩=some (.int .u8 (x.kind.toNat:Int)):=by unfold World.cell?;rw [hnw];rfl
    have x1:w1.cell? ⟨wr.heap.size,1,none⟩=some (.int .i64 (x.kids:Int)):=by unfold World.cell?;rw [hnw];rfl
    have x2:w1.cell? ⟨wr.heap.size,2,none⟩=some (.int .i64 x.word):=by unfold World.cell?;rw [hnw];rfl
    have x3:w1.cell? ⟨wr.heap.size,3,none⟩=some (.int .i64 (x.fr:Int)):=by unfold World.cell?;rw [hnw];rfl
    have x4:w1.cell? ⟨wr.heap.size,4,none⟩=some (.int .i64 (x.till:Int)):=by unfold World.cell?;rw [hnw];rfl
    go_cut [21,75] from 21 to 185 (fun v21 v75 wx=>v21=.int .i64 (i:Int)∧v75=.bool false∧wx=w1)
    case first =>
     rcases hNd.word with hw|⟨hw1,hw2⟩
     ·rw [hw] at x2
      go_wp2_with fail
      go_meet
      exact⟨rfl,rfl,rfl⟩
     ·have e1:(x.word != -1)=true:=by simp;omega
      have e2:decide (x.word < (x.fr:Int))=false:=by simp;omega
      have e3:decide ((x.till:Int)≤x.word)=false:=by simp;omega
      go_wp2_with fail
      go_meet
      exact⟨rfl,rfl,rfl⟩
    case rest =>
     obtain⟨rfl,rfl,rfl⟩:=hcut
     clear d1 d2 d3 d4 d5 d6
     obtain⟨⟨u0,hu0⟩,hf0,hO2⟩:=hO1.put b2 i (.int .i64 (-1)) (.inr rfl) hil
     have hnw2:(wc.setCell ⟨b2,i,none⟩ (.int .i64 (-1))).heap[wr.heap.size]?=some (Obj.cells #[.int .u8 (x.kind.toNat:Int),.int .i64 (x.kids:Int),.int .i64 x.word,.int .i64 (x.fr:Int),.int .i64 (x.till:Int)] 47 (0,0)):=by
      rw [Below.heap_setCell _ _ _ _ (by have:=hO1.two;show wr.heap.size≠b2;omega)];exact hnw
     go_upto_if 80 with fail
     generalize wc.setCell ⟨b2,i,none⟩ (.int .i64 (-1))=w2 at *
     clear hu0 hf0 hO1 hnw x0 x1 x2 x3 x4
     go_cut [4,5,6,11,12,21] from 21 to 185 (fun v4 v5 v6 v11 v12 v21 wx=>v4=.slice (some ⟨b1,0,none⟩) len len∧v5=.slice (some ⟨b2,0,none⟩) len len∧v6=.int .i64 d∧v21=.int .i64 (i:Int)∧(∃ st2:List Fm,st2.length=st.length∧Outl w len b1 b2 st2 u8 wx∧Pend n L (i+1) (⟨i,x.kids,x.fr⟩::st2) (L.drop (i+1)))∧wx.heap[wr.heap.size]?=some (Obj.cells #[.int .u8 (x.kind.toNat:Int),.int .i64 (x.kids:Int),.int .i64 x.word,.int .i64 (x.fr:Int),.int .i64 (x.till:Int)] 47 (0,0)))
     case first =>
      as_aux_lemma =>
       rcases HP2.out with ⟨rfl,rfl,hp⟩|⟨hi0,f,fs,u,rfl,hu,hflt,hfl,hfl2,hkid,hp⟩
       ·have HPP:=Lib.hid hp
        clear hp
        go_wp2_with fail
        go_meet
        exact⟨rfl,rfl,rfl,rfl,⟨[],rfl,hO2,HPP.out⟩,hnw2⟩
       ·have HPP:=Lib.hid hp
        clear hp
        obtain⟨g,c,rfl,hg1,hg2,f0,f1,f2,hfz,cur,hcur⟩:=hO2.top
        have hgx:g≠wr.heap.size:=fun e=>by subst e;rw [hnw2] at hcur;cases hcur
        have e1:decide (0 < (i:Int))=true:=by simp;omega
        obtain⟨y0,y1,y2,y3,y4⟩:=(hA.later hb (hO2.bel)) f.node u hu
        have k1:decide (x.fr < f.done)=false:=by have:=hkid.done;simp;omega
        have k2:decide (u.till < x.till)=false:=by have:=hkid.till;simp;omega
        have kw:=hkid.word
        have hfn:f.node < len:=by omega
        have hfn2:(f.node:Int) < (len:Int):=by omega
        have HU:=Lib.hid hu
        obtain⟨m,hm⟩:∃ m,m=fs.length:=⟨_,rfl⟩
        have HM:=Lib.hid hm
        rw [← hm] at f0 f1 f2
        have hfew2:m+1≤i:=by rw [hm];simpa using hfew
        have hO3:=hO2
        rw [← hm] at hO3 ⊢
        clear hm hu hflt
        go_upto_region 16 with fail
        obtain⟨OU,hOU⟩:∃ OU,OU=(Obj.cells #[.int .u8 (u.kind.toNat:Int),.int .i64 (u.kids:Int),.int .i64 u.word,.int .i64 (u.fr:Int),.int .i64 (u.till:Int)] 47 (0,0)):=⟨_,rfl⟩
        rw [← hOU]
        have hB3:=(Below.refl w2.heap.size w2).alloc (Nat.le_refl _) OU
        have hnu:=heap_alloc_new w2 OU
        have hO4:=hO3.later hB3
        have hnw3:=(hB3.block _ (lt_of_block' hnw2)).trans hnw2
        have f0:=keepC hB3 hg2 f0
        have f1:=keepC hB3 hg2 f1
        have f2:=keepC hB3 hg2 f2
        have hne:wr.heap.size≠b2:=by have:=hO2.two;omega
        have hgb:g≠b2:=by have:=hO2.two;omega
        clear y0 y1 y2 y3 y4 hfz hO2 hO3 e1
        generalize w2.alloc OU=w3 at *
        have x3:w3.cell? ⟨wr.heap.size,3,none⟩=some (.int .i64 (x.fr:Int)):=by unfold World.cell?;rw [hnw3];rfl
        have x4:w3.cell? ⟨wr.heap.size,4,none⟩=some (.int .i64 (x.till:Int)):=by unfold World.cell?;rw [hnw3];rfl
        have y2:w3.cell? ⟨w2.heap.size,2,none⟩=some (.int .i64 u.word):=by unfold World.cell?;rw [hnu,hOU];rfl
        have y4:w3.cell? ⟨w2.heap.size,4,none⟩=some (.int .i64 (u.till:Int)):=by unfold World.cell?;rw [hnu,hOU];rfl
        go_cut [21,123] from 21 to 185 (fun v21 v123 wx=>v21=.int .i64 (i:Int)∧v123=.bool false∧∃ q,wx=w3.drewN q)
        case first =>
         by_cases e:(x.fr:Int)≤u.word
         ·have k3:decide ((x.fr:Int)≤u.word)=true:=by simpa using e
          have k4:decide (u.word < (x.till:Int))=false:=by simp;omega
          go_wp2_with fail
          go_big_quiet (fail)
          go_wp2_with fail
          go_meet
          exact⟨rfl,rfl,_,rfl⟩
         ·have k3:decide ((x.fr:Int)≤u.word)=false:=by simpa using e
          go_wp2_with fail
          go_big_quiet (fail)
          go_wp2_with fail
          go_meet
          exact⟨rfl,rfl,_,rfl⟩
        case rest =>
         obtain⟨rfl,rfl,q,rfl⟩:=hcut
         clear k1 k2
         have hB6:=below_drewN (Below.refl w3.heap.size w3) q
         have hO6:=hO4.later hB6
         have hnw6:=(hB6.block _ (lt_of_block' hnw3)).trans hnw3
         have hg3:g < w3.heap.size:=Nat.lt_of_lt_of_le hg2 hB3.size
         have f0:=keepC hB6 hg3 f0
         have f1:=keepC hB6 hg3 f1
         clear hO4 hnw3 f2 x3 x4 y2 y4 hnu hB3 hB6
         generalize w3.drewN q=w6 at *
         obtain⟨⟨u9,hu9⟩,hf9,hO7⟩:=hO6.put b2 i (.int .i64 (f.node:Int)) (.inr rfl) hil
         go_upto_region 19 with fail
         have hnw7:(w6.setCell ⟨b2,i,none⟩ (.int .i64 (f.node:Int))).heap[wr.heap.size]?=_:=(Below.heap_setCell _ _ _ _ (show wr.heap.size≠b2 from hne)).trans hnw6
         have hfz7:∀ j,(w6.setCell ⟨b2,i,none⟩ (.int .i64 (f.node:Int))).frozen? ⟨g,j,none⟩=false:=by
          exact (hO7.topm HM.out).2.2.2
         have f1':(w6.setCell ⟨b2,i,none⟩ (.int .i64 (f.node:Int))).cell? ⟨g,m*3+1,none⟩=some (.int .i64 (f.left:Int)):=by
          rw [World.cell?_of_block (a:=⟨g,m*3+1,none⟩) (Below.heap_setCell _ _ _ _ (show g≠b2 from hgb))];exact f1
         clear f0 f1 hO6 hnw6 hu9 hf9
         generalize w6.setCell ⟨b2,i,none⟩ (.int .i64 (f.node:Int))=w7 at *
         have hO8:=hO7.set1 HM.out (f.left - 1) ((f.left:Int) - 1) (by omega) hg1
         have hz7:=hfz7 (m*3+1)
         go_upto_region 20 with fail
         have hnw8:(w7.setCell ⟨g,m*3+1,none⟩ (.int .i64 ((f.left:Int) - 1))).heap[wr.heap.size]?=_:=(Below.heap_setCell _ _ _ _ (show wr.heap.size≠g from fun e=>hgx e.symm)).trans hnw7
         have hO9:=hO8.set2 HM.out x.till (x.till:Int) rfl hg1
         obtain⟨_,_,f2',hz8⟩:=hO8.topm HM.out
         have hz9:=hz8 (m*3+2)
         clear f1' hz7 hO7 hO8 hfz7 hnw7 hz8
         generalize w7.setCell ⟨g,m*3+1,none⟩ (.int .i64 ((f.left:Int) - 1))=w8 at *
         have x4:w8.cell? ⟨wr.heap.size,4,none⟩=some (.int .i64 (x.till:Int)):=by unfold World.cell?;rw [hnw8];rfl
         have hnw9:(w8.setCell ⟨g,m*3+2,none⟩ (.int .i64 (x.till:Int))).heap[wr.heap.size]?=_:=(Below.heap_setCell _ _ _ _ (show wr.heap.size≠g from fun e=>hgx e.symm)).trans hnw8
         have H9:=Lib.hid (And.intro hO9 hnw9)
         clear hO9 hnw9
         go_wp2_with fail
         have hmm:=HM.out
         clear HM
         subst hmm
         go_meet
         exact⟨rfl,rfl,rfl,rfl,⟨⟨f.node,f.left - 1,x.till⟩::fs,rfl,H9.out.1,HPP.out⟩,H9.out.2⟩
     case rest =>
      obtain⟨rfl,rfl,rfl,rfl,⟨st2,hln,hO3,hpd⟩,hnx⟩:=hcut
      have HPD:=Lib.hid hpd
      clear HP2 hnw2 hO2 hpd
      have x1:wc.cell? ⟨wr.heap.size,1,none⟩=some (.int .i64 (x.kids:Int)):=by unfold World.cell?;rw [hnx];rfl
      have x3:wc.cell? ⟨wr.heap.size,3,none⟩=some (.int .i64 (x.fr:Int)):=by unfold World.cell?;rw [hnx];rfl
      obtain⟨OF,hOF⟩:∃ OF,OF=Obj.cells #[.int .i64 (i:Int),.int .i64 (x.kids:Int),.int .i64 (x.fr:Int)] 86:=⟨_,rfl⟩
      have hO4:=hO3.later ((Below.refl wc.heap.size wc).alloc (Nat.le_refl _) OF)
      have hstk:=hO4.stk
      have h63:st2.length+1≤maxLen:=by unfold maxLen;omega
      have hby:(st2.length+1)*24≤140737488355328:=by omega
      have hbase:w.heap.size+2≤(wc.alloc OF).heap.size:=by have:=hO4.size;exact this
      have hnews:=World.news_of_block (cs:=#[.int .i64 (i:Int),.int .i64 (x.kids:Int),.int .i64 (x.fr:Int)]) (t:=86) (fr:=(0,0)) (by rw [← hOF];exact heap_alloc_new wc OF)
      rw [hOF] at hstk hbase hO4 hnews
      clear hO3 hnx
      go_wp2_with (at_builtin;refine wpList_append_own_at _ rfl (.tmp 143) (.tmp 150) 83 rfl (w.heap.size+2) 86 i4 _ 3 24 Tryz.underlying83 hi4 hy0 hy1 hy2 rfl (by decide) _ _ _ rfl hstk ⟨wc.heap.size,0,none⟩ 1 1 [.int .i64 (i:Int),.int .i64 (x.kids:Int),.int .i64 (x.fr:Int)] rfl rfl hnews (by simp [Value.oneCell']) h63 hby hbase ?_)
      intro v' w4 hown hgrow _ hat
      have hO5:=hO4.on (f:=⟨i,x.kids,x.fr⟩) hown (by omega) rfl hgrow
      clear hown hgrow hat hO4 hstk hnews hbase hby h63 x1 x3 hOF
      obtain⟨va,vc,rfl⟩:=Grd.own_shape hO5.stk
      have hst2:st2.length≤1000000000:=by omega
      have HO5:=Lib.hid (And.intro hO5 hln)
      clear hO5 hln
      go_upto_region 22 with fail
      go_cut [6,21] from 21 to 185 (fun v6 v21 wx=>(∃ d':Int,v6=.int .i64 d')∧v21=.int .i64 (i:Int)∧wx=w4)
      case first =>
       go_wp2_with fail
       all_goals (go_meet;exact⟨⟨_,rfl⟩,rfl,rfl⟩)
      case rest =>
      obtain⟨⟨d',rfl⟩,rfl,rfl⟩:=hcut
      go_wp2_with fail
      go_loopg [8] (st2.length+1) (fun j v8 wq=>∃ st3:List Fm,st3.length=j∧j≤st2.length+1∧Outl w len b1 b2 st3 v8 wq∧Pend n L (i+1) st3 (L.drop (i+1)))
      case atStart=>exact⟨_,rfl,Nat.le_refl _,HO5.out.1,HPD.out⟩
      case round =>
       as_aux_lemma =>
        obtain⟨st3,hl3,hj3,hO6,hp3⟩:=hrel
        have HP3:=Lib.hid hp3
        clear hp3
        cases st3 with
        | nil =>
         obtain⟨sa,sc,rfl⟩:=Grd.own_shape hO6.stk
         have HO6:=Lib.hid hO6
         clear hO6
         simp only [List.length_nil] at hl3
         subst hl3
         go_wp2_with fail
         go_roundg (gk - 1)
         case measure=>omega
         case rel=>exact⟨i+1,[],d',rfl,rfl,by simp,rfl,by omega,by simp,HO6.out,.inr ⟨by omega,HP3.out,fun f l h=>by cases h⟩⟩
        | cons f fs =>
         obtain⟨g,c,rfl,hg1,hg2,f0,f1,f2,hfz,cur,hcur⟩:=hO6.top
         simp only [List.length_cons] at hl3
         obtain⟨m,hm⟩:∃ m,m=fs.length:=⟨_,rfl⟩
         have HM:=Lib.hid hm
         rw [← hm] at f0 f1 f2 hl3 hO6 ⊢
         subst hl3
         have hmb:m+1≤1000000001:=by omega
         have HJ:=Lib.hid hj3
         clear hm f2 hcur hj3
         by_cases hz:f.left=0
         ·rw [hz] at f1
          obtain⟨u,hu,hlt,_⟩:=HP3.out.node
          have hcap:=hO6.stk
          rw [List.length_cons,← HM.out] at hcap
          have hcap:=Grd.own_cap hcap
          obtain⟨⟨u9,hu9⟩,hf9,hO7⟩:=hO6.put b1 f.node (.int .i64 ((i:Int)+1)) (.inl rfl) (by omega)
          have hnl:f.node < len:=by omega
          have HU:=Lib.hid hu
          clear hfz hO6 hu
          go_upto_region 25 with fail
          have HO7:=Lib.hid hO7
          clear hO7 hu9 hf9
          generalize wr.setCell ⟨b1,f.node,none⟩ (.int .i64 ((i:Int)+1))=w9 at *
          go_wp2_with fail
          have hmm:=HM.out
          clear HM
          subst hmm
          go_roundg fs.length
          case measure=>omega
          case rel=>exact⟨fs,rfl,by have:=HJ.out;omega,HO7.out.off,HP3.out.pop hz⟩
         ·have k1:(f.left==0)=false:=by simpa using hz
          have k2:((f.left:Int)==0)=false:=by simp;omega
          have HO6:=Lib.hid hO6
          clear hO6
          go_wp2_with fail
          go_roundg (gk - 1)
          case measure=>omega
          case rel=>exact⟨i+1,f::fs,d',rfl,rfl,by simp,rfl,by omega,by have:=HJ.out;have:=HO5.out.2;have:=HM.out;simp only [List.length_cons];omega,HO6.out,.inr ⟨by omega,HP3.out,fun f' l h=>by cases h;exact hz⟩⟩
   ·have hst:st=[]:=by
     rcases hP with ⟨_,h⟩|⟨_,h,h2⟩
     ·exact h
     ·rw [List.drop_of_length_le (by have:=HLN.out;omega)] at h
      exact h.end_ h2
    subst hst
    obtain⟨sa,sc,rfl⟩:=Grd.own_shape hO.stk
    have HB:=Lib.hid hO.bel
    have d1:decide ((i:Int) < (len:Int))=false:=by simp;omega
    have d2:decide (0 < len)=true:=by simp;omega
    clear hO hP
    go_wp2_with fail
    all_goals (try simp only [Exit.inBlock,Exit.then])
    refine bodyPost_ret (results_tmp4' rfl _ _ _) rfl ?_
    exact⟨⟨_,_,_,rfl⟩,HB.out⟩
end
end Go.Proofs.YtegbdigfbklkaaaGreatDoor
