import Derived.Deep.LoopGhost
import Derived.Test.YtiifmpgpfijdgaaGreatDoorQBS
import Derived.Test.YtiifmpgpfijdgaaGreatDoorQAG
import Derived.Laws.EntriesVeiled
namespace Go.Proofs.YtiifmpgpfijdgaaGreatDoor
set_option linter.all false
set_option maxHeartbeats 40000000
set_option maxRecDepth 100000
section
open Go.RowKit
variable {w w':World}
theorem Tryz.infoN:(Tryz.prog.info? 76).map (fun i=>(i.zero,i.size,i.bytes))=some (some (.agg #[.int .u8 0,.int .i64 0,.int .i64 0,.int .i64 0,.int .i64 0]),5,40):=by kernel_rfl
def Pars (wS:World) (Bp:Nat) (tv:Value) (l:List Nd5) (w:World):Prop :=
 ∃ v,w.heap[Bp]?=some (.cells #[tv,v] 45 (0,0))∧w.ownsRow wS.heap.size 76 5 v l.length (nd5sV l)∧Fr [Bp] wS w
def treeD (wS:World) (Bp:Nat):Nat→Prop:=fun b=>b < wS.heap.size∧b≠Bp
theorem node_cells {D:Nat→Prop}{q:Nat}{k:UInt8}{wd:Int}{f t:Nat}{ks:List Tr} (h:TreeAt w D q (.mk k wd f t ks)):∃ ka cap ps,w.heap[q]?=some (.cells #[.int .u8 (k.toNat:Int),.int .i64 wd,.int .i64 (f:Int),.int .i64 (t:Int),.slice ka ks.length cap] 60 (0,0))∧D q∧PRowD w D ka ps∧TreesAt w D ps ks:=by
 obtain⟨h1,ka,cap,ps,h2,h3,h4⟩:=h
 exact⟨ka,cap,ps,h2,h1,h3,h4⟩
theorem pars_step {wS w w2:World}{Bp:Nat}{tv:Value}{l:List Nd5}{x:Nd5}{v:Value}{O:Obj}{gg cap2:Nat} (hBp:Bp < wS.heap.size) (hF:Fr [Bp] wS w) (hp:w.heap[Bp]?=some (.cells #[tv,v] 45 (0,0))) (hown:w.ownsRow wS.heap.size 76 5 v l.length (nd5sV l))
  (hg:(w.alloc O).drew.grownBy w2 v.ownBlock) (ho:w2.ownsRow wS.heap.size 76 5 (.slice (some ⟨gg,0,none⟩) (l.length+1) cap2) (l.length+1) (nd5sV l++nd5V x)) :
  Pars wS Bp tv (l++[x]) (w2.setCell ⟨Bp,1,none⟩ (.slice (some ⟨gg,0,none⟩) (l.length+1) cap2)):=by
 have hs:=hF.size
 have hlt:Bp < w.heap.size:=by omega
 have hB:=((Below.refl w.heap.size w).alloc (Nat.le_refl _) O).drew
 have hoc:v.ownBlock≠some Bp:=fun e=>by have:=(hown.lt Bp e).1;omega
 have h2:w2.heap[Bp]?=some (.cells #[tv,v] 45 (0,0)):=(hg.block Bp (by have:=hB.size;omega) (fun e=>hoc e.symm)).trans ((hB.block Bp hlt).trans hp)
 have hX:Fr (rowX v) (w.alloc O).drew w2:=Fr.grown hg (fun k hk=>by simp [rowX,hk])
 have hXm:∀ i∈rowX v,wS.heap.size≤i:=by
  intro i hi
  unfold rowX at hi
  split at hi
  ·rename_i b2 hb2
   simp at hi;subst hi
   exact (hown.lt _ hb2).1
  ·simp at hi
 have h3:=heap_setCell_same w2 Bp 1 _ _ (.slice (some ⟨gg,0,none⟩) (l.length+1) cap2) h2
 simp only [List.setIfInBounds_toArray,List.set_cons_zero,List.set_cons_succ] at h3
 have hgg:=(ho.lt gg rfl).1
 refine⟨_,h3,?_,((hF.trans (Fr.below hB)).trans' hX (fun i hi=>.inr (hXm i hi))).trans (fr_set Bp 1 w2 _)⟩
 rw [nd5sV_snoc,List.length_append]
 exact rows_later ho (fr_set Bp 1 w2 _) (fun b hb e=>by simp at hb;have e2:gg=b:=Option.some.inj e;omega)
theorem parse_rec (wS:World) (Bp Bw:Nat) (tv:Value) (hBp:Bp < wS.heap.size) (hBw:wS.cell? ⟨Bw,0,none⟩=some (.func (.func 34) #[] #[.pointer (some ⟨Bp,0,none⟩),.pointer (some ⟨Bw,0,none⟩)])) (hne:Bw≠Bp) :
  ∀ (n:Nat) (t:Tr),cnt t≤n→∀ (q:Nat) (l:List Nd5) (w:World),TreeAt wS (treeD wS Bp) q t→Pars wS Bp tv l w→l.length+cnt t≤1000000000 →
   Calls Tryz.prog 34 #[.pointer (some ⟨q,0,none⟩),.pointer (some ⟨Bp,0,none⟩),.pointer (some ⟨Bw,0,none⟩)] w (fun e w'=>e=.returned (.tuple #[])∧Pars wS Bp tv (l++nodes t) w'):=by
 intro n
 induction n with
 | zero=>intro t ht;have:=cnt_pos t;omega
 | succ n ih =>
  intro t ht q l w hT hP hl
  obtain⟨k,wd,f,te,ks⟩:=t
  have IH:=Lib.hid ih
  clear ih
  obtain⟨ka,cap,ps,hq,hD,hrow,htr⟩:=node_cells hT
  obtain⟨v,hp,hown,hF⟩:=hP
  have hq1:=hF.at_ (k:=q) (by simp;exact hD.2) hq
  have q0:w.cell? ⟨q,0,none⟩=some (.int .u8 (k.toNat:Int)):=by simp [World.cell?,hq1]
  have q1:w.cell? ⟨q,1,none⟩=some (.int .i64 wd):=by simp [World.cell?,hq1]
  have q2:w.cell? ⟨q,2,none⟩=some (.int .i64 (f:Int)):=by simp [World.cell?,hq1]
  have q3:w.cell? ⟨q,3,none⟩=some (.int .i64 (te:Int)):=by simp [World.cell?,hq1]
  have q4:w.cell? ⟨q,4,none⟩=some (.slice ka ks.length cap):=by simp [World.cell?,hq1]
  have p1:w.cell? ⟨Bp,1,none⟩=some v:=by simp [World.cell?,hp]
  have pf:w.frozen? ⟨Bp,1,none⟩=false:=by simp [World.frozen?,hp]
  obtain⟨va,vc,rfl⟩:=slice_of_row hown
  go_enter Tryz.func34,Tryz.ntmps34
  go_wp2_with fail
  obtain⟨iN,hiN,hz0,hz1,hz2⟩:=info_parts Tryz.infoN
  have hlt:Bp < w.heap.size:=Nat.lt_of_lt_of_le hBp hF.size
  have hoc:(Value.slice va l.length vc).ownBlock≠some Bp:=fun e=>by have:=(hown.lt Bp e).1;omega
  have hpc:∀ o,(w.alloc o).cell? ⟨Bp,1,none⟩=some (.slice va l.length vc):=fun o=>by rw [((Below.refl w.heap.size w).alloc (Nat.le_refl _) o).cell hlt];exact p1
  have hpz:∀ o,(w.alloc o).frozen? ⟨Bp,1,none⟩=false:=fun o=>by rw [World.frozen?_alloc_old _ _ _ (by simp;omega)];exact pf
  have hqlt:q < w.heap.size:=Nat.lt_of_lt_of_le hD.1 hF.size
  have hqo:(Value.slice va l.length vc).ownBlock≠some q:=fun e=>by have:=(hown.lt q e).1;have:=hD.1;omega
  have hqp:Bp≠q:=fun e=>hD.2 e.symm
  have pA:=hpc (.cells #[.int .u8 (k.toNat:Int),.int .i64 (ks.length:Int),.int .i64 wd,.int .i64 (f:Int),.int .i64 (te:Int)] 76)
  have hal:∀ (i:Nat) (o:Obj),(w.alloc o).drew.cell? ⟨q,i,none⟩=w.cell? ⟨q,i,none⟩:=fun i o=>World.cell?_of_block (a:=⟨q,i,none⟩) (((Below.refl w.heap.size w).alloc (Nat.le_refl _) o).drew.block q hqlt)
  have hsz:wS.heap.size≤w.heap.size:=hF.size
  go_cut [] from 6 (fun wx=>Pars wS Bp tv (l++[⟨k,ks.length,wd,f,te⟩]) wx)
  case first =>
   refine wp_region_held_drew (S:=fun w'=>w'.cell? ⟨q,0,none⟩=some (.int .u8 (k.toNat:Int))∧w'.cell? ⟨q,1,none⟩=some (.int .i64 wd)∧w'.cell? ⟨q,2,none⟩=some (.int .i64 (f:Int))∧w'.cell? ⟨q,3,none⟩=some (.int .i64 (te:Int))∧w'.cell? ⟨q,4,none⟩=some (.slice ka ks.length cap)) (by kernel_rfl) ?_ (fun hHeld=>?_)
   ·((try dsimp only);(first|exact⟨q0,q1,q2,q3,q4⟩|exact⟨(hal 0 _).trans q0,(hal 1 _).trans q1,(hal 2 _).trans q2,(hal 3 _).trans q3,(hal 4 _).trans q4⟩|exact⟨(hap 0).trans q0,(hap 1).trans q1,(hap 2).trans q2,(hap 3).trans q3,(hap 4).trans q4⟩|exact⟨(hst 0).trans q0,(hst 1).trans q1,(hst 2).trans q2,(hst 3).trans q3,(hst 4).trans q4⟩))
   refine tk 0 ?_;try simp only [Act.put,ls]
   refine tk 2 ?_;try simp only [Act.put,ls]
   refine tk 3 ?_;try simp only [Act.put,ls]
   refine tk 4 ?_;try simp only [Act.put,ls]
   refine tk 5 ?_;try simp only [Act.put,ls]
   refine tk 6 ?_;try simp only [Act.put,ls]
   refine tk 7 ?_;try simp only [Act.put,ls]
   refine tk 8 ?_;try simp only [Act.put,ls]
   refine tk 9 ?_;try simp only [Act.put,ls]
   refine tk 10 ?_;try simp only [Act.put,ls]
   refine tk 11 ?_;try simp only [Act.put,ls]
   refine tk 12 ?_;try simp only [Act.put,ls]
   refine tk 13 ?_;try simp only [Act.put,ls]
   refine tk 14 ?_;try simp only [Act.put,ls]
   refine tk 15 ?_;try simp only [Act.put,ls]
   refine tk 16 ?_;try simp only [Act.put,ls]
   refine tk 17 ?_;try simp only [Act.put,ls]
   refine tk 18 ?_;try simp only [Act.put,ls]
   refine tk 19 ?_;try simp only [Act.put,ls]
   refine tk 20 ?_;try simp only [Act.put,ls]
   refine tk 21 ?_;try simp only [Act.put,ls]
   refine tk 22 ?_;try simp only [Act.put,ls]
   refine tk 23 ?_;try simp only [Act.put,ls]
   refine wpAnyH_ready (rs:=[1,24]) (by kernel_rfl) (by simp) (AllReadyH.cons (o:=?_) ?_ (fun K hK=>?_) (AllReadyH.cons (o:=?_) ?_ (fun K hK=>?_) AllReadyH.nil))
   rotate_left
   ·(first|(simp only [List.getElem?_toArray,List.getElem?_cons_succ,List.getElem?_cons_zero];done)|(simp only [List.getElem?_toArray,List.getElem?_cons_succ,List.getElem?_cons_zero];exact rfl))
   rotate_left 2
   ·(first|(simp only [List.getElem?_toArray,List.getElem?_cons_succ,List.getElem?_cons_zero];done)|(simp only [List.getElem?_toArray,List.getElem?_cons_succ,List.getElem?_cons_zero];exact rfl))
   ·skip
    go_simp
    go_wp2_with fail
    refine hK.out _ _ ?_ (fun hHeld24=>?_)
    ·((try dsimp only);(first|exact⟨q0,q1,q2,q3,q4⟩|exact⟨(hal 0 _).trans q0,(hal 1 _).trans q1,(hal 2 _).trans q2,(hal 3 _).trans q3,(hal 4 _).trans q4⟩|exact⟨(hap 0).trans q0,(hap 1).trans q1,(hap 2).trans q2,(hap 3).trans q3,(hap 4).trans q4⟩|exact⟨(hst 0).trans q0,(hst 1).trans q1,(hst 2).trans q2,(hst 3).trans q3,(hst 4).trans q4⟩))
    clear hK K
    try simp only [Act.put,List.setIfInBounds_toArray,List.set_cons_zero,List.set_cons_succ]
    refine wpAnyH_ready (rs:=[1]) (by kernel_rfl) (by simp) (AllReadyH.cons (o:=?_) ?_ (fun K hK=>?_) AllReadyH.nil)
    rotate_left
    ·(first|(simp only [List.getElem?_toArray,List.getElem?_cons_succ,List.getElem?_cons_zero];done)|(simp only [List.getElem?_toArray,List.getElem?_cons_succ,List.getElem?_cons_zero];exact rfl))
    go_simp
    go_wp2_with fail
    refine hK.out _ _ ?_ (fun hHeld1=>?_)
    ·((try dsimp only);(first|exact⟨q0,q1,q2,q3,q4⟩|exact⟨(hal 0 _).trans q0,(hal 1 _).trans q1,(hal 2 _).trans q2,(hal 3 _).trans q3,(hal 4 _).trans q4⟩|exact⟨(hap 0).trans q0,(hap 1).trans q1,(hap 2).trans q2,(hap 3).trans q3,(hap 4).trans q4⟩|exact⟨(hst 0).trans q0,(hst 1).trans q1,(hst 2).trans q2,(hst 3).trans q3,(hst 4).trans q4⟩))
    clear hK K
    try simp only [Act.put,List.setIfInBounds_toArray,List.set_cons_zero,List.set_cons_succ]
    refine wpAnyH_ready (rs:=[25]) (by kernel_rfl) (by simp) (AllReadyH.cons (o:=?_) ?_ (fun K hK=>?_) AllReadyH.nil)
    rotate_left
    ·(first|(simp only [List.getElem?_toArray,List.getElem?_cons_succ,List.getElem?_cons_zero];done)|(simp only [List.getElem?_toArray,List.getElem?_cons_succ,List.getElem?_cons_zero];exact rfl))
    refine step_append_lies _ (by rfl) _ _ _ (by rfl) wS.heap.size 76 iN _ 5 40 Tryz.underlying43 hiN hz0 hz1 hz2 rfl (by omega) (.slice va l.length vc) l.length (nd5sV l) (by rfl) ((hown.alloc _).drew) ⟨w.heap.size,0,none⟩ 1 1 (nd5V ⟨k,ks.length,wd,f,te⟩) (by rfl) (by rfl) (World.news_of_block (cs:=(nd5V ⟨k,ks.length,wd,f,te⟩).toArray) (t:=76) (fr:=(0,0)) (heap_alloc_new w _)) (by simp [nd5V,Value.oneCell']) (by omega) (by unfold maxLen;omega) (by omega) (by simp;omega) (w.heap.size+1) (by simp) ?_
    intro gg cap2 w2 hown2 hgrow2 hat2 hlt2
    have k2:w2.cell? ⟨Bp,1,none⟩=some (.slice va l.length vc):=(hgrow2.cell_far _ (by simp;omega) (Ne.symm hoc)).trans (hpc _)
    have z2:w2.frozen? ⟨Bp,1,none⟩=false:=(hgrow2.frozen_far _ (by simp;omega) (Ne.symm hoc)).trans (hpz _)
    have hap:∀ i:Nat,w2.cell? ⟨q,i,none⟩=w.cell? ⟨q,i,none⟩:=fun i=>(hgrow2.cell_far ⟨q,i,none⟩ (by simp;omega) (Ne.symm hqo)).trans (hal i _)
    have hst:∀ i:Nat,(w2.setCell ⟨Bp,1,none⟩ (.slice (some ⟨gg,0,none⟩) (l.length+1) cap2)).cell? ⟨q,i,none⟩=w.cell? ⟨q,i,none⟩:=fun i=>(World.cell?_setCell_far w2 ⟨Bp,1,none⟩ ⟨q,i,none⟩ _ hqp).trans (hap i)
    have HPS:=Lib.hid (pars_step (x:=⟨k,ks.length,wd,f,te⟩) hBp hF hp hown hgrow2 hown2)
    clear hgrow2 hown2
    refine hK.out _ _ ?_ (fun hHeld25=>?_)
    ·((try dsimp only);(first|exact⟨q0,q1,q2,q3,q4⟩|exact⟨(hal 0 _).trans q0,(hal 1 _).trans q1,(hal 2 _).trans q2,(hal 3 _).trans q3,(hal 4 _).trans q4⟩|exact⟨(hap 0).trans q0,(hap 1).trans q1,(hap 2).trans q2,(hap 3).trans q3,(hap 4).trans q4⟩|exact⟨(hst 0).trans q0,(hst 1).trans q1,(hst 2).trans q2,(hst 3).trans q3,(hst 4).trans q4⟩))
    clear hK K
    try simp only [Act.put,List.setIfInBounds_toArray,List.set_cons_zero,List.set_cons_succ]
    refine tk 26 ?_;try simp only [Act.put,ls]
    refine wpAnyH_ready (rs:=[27]) (by kernel_rfl) (by simp) (AllReadyH.cons (o:=?_) ?_ (fun K hK=>?_) AllReadyH.nil)
    rotate_left
    ·(first|(simp only [List.getElem?_toArray,List.getElem?_cons_succ,List.getElem?_cons_zero];done)|(simp only [List.getElem?_toArray,List.getElem?_cons_succ,List.getElem?_cons_zero];exact rfl))
    go_simp
    go_wp2_with fail
    refine hK.out _ _ ?_ (fun hHeld27=>?_)
    ·((try dsimp only);(first|exact⟨q0,q1,q2,q3,q4⟩|exact⟨(hal 0 _).trans q0,(hal 1 _).trans q1,(hal 2 _).trans q2,(hal 3 _).trans q3,(hal 4 _).trans q4⟩|exact⟨(hap 0).trans q0,(hap 1).trans q1,(hap 2).trans q2,(hap 3).trans q3,(hap 4).trans q4⟩|exact⟨(hst 0).trans q0,(hst 1).trans q1,(hst 2).trans q2,(hst 3).trans q3,(hst 4).trans q4⟩))
    clear hK K
    try simp only [Act.put,List.setIfInBounds_toArray,List.set_cons_zero,List.set_cons_succ]
    refine wpAnyH_done (by kernel_rfl) ?_ _
    go_wp2_with fail
    go_meet
    case rel=>exact HPS.out
   ·skip
    go_simp
    go_wp2_with fail
    refine hK.out _ _ ?_ (fun hHeld1=>?_)
    ·((try dsimp only);(first|exact⟨q0,q1,q2,q3,q4⟩|exact⟨(hal 0 _).trans q0,(hal 1 _).trans q1,(hal 2 _).trans q2,(hal 3 _).trans q3,(hal 4 _).trans q4⟩|exact⟨(hap 0).trans q0,(hap 1).trans q1,(hap 2).trans q2,(hap 3).trans q3,(hap 4).trans q4⟩|exact⟨(hst 0).trans q0,(hst 1).trans q1,(hst 2).trans q2,(hst 3).trans q3,(hst 4).trans q4⟩))
    clear hK K
    try simp only [Act.put,List.setIfInBounds_toArray,List.set_cons_zero,List.set_cons_succ]
    refine wpAnyH_ready (rs:=[24]) (by kernel_rfl) (by simp) (AllReadyH.cons (o:=?_) ?_ (fun K hK=>?_) AllReadyH.nil)
    rotate_left
    ·(first|(simp only [List.getElem?_toArray,List.getElem?_cons_succ,List.getElem?_cons_zero];done)|(simp only [List.getElem?_toArray,List.getElem?_cons_succ,List.getElem?_cons_zero];exact rfl))
    go_simp
    go_wp2_with fail
    refine hK.out _ _ ?_ (fun hHeld24=>?_)
    ·((try dsimp only);(first|exact⟨q0,q1,q2,q3,q4⟩|exact⟨(hal 0 _).trans q0,(hal 1 _).trans q1,(hal 2 _).trans q2,(hal 3 _).trans q3,(hal 4 _).trans q4⟩|exact⟨(hap 0).trans q0,(hap 1).trans q1,(hap 2).trans q2,(hap 3).trans q3,(hap 4).trans q4⟩|exact⟨(hst 0).trans q0,(hst 1).trans q1,(hst 2).trans q2,(hst 3).trans q3,(hst 4).trans q4⟩))
    clear hK K
    try simp only [Act.put,List.setIfInBounds_toArray,List.set_cons_zero,List.set_cons_succ]
    refine wpAnyH_ready (rs:=[25]) (by kernel_rfl) (by simp) (AllReadyH.cons (o:=?_) ?_ (fun K hK=>?_) AllReadyH.nil)
    rotate_left
    ·(first|(simp only [List.getElem?_toArray,List.getElem?_cons_succ,List.getElem?_cons_zero];done)|(simp only [List.getElem?_toArray,List.getElem?_cons_succ,List.getElem?_cons_zero];exact rfl))
    refine step_append_lies _ (by rfl) _ _ _ (by rfl) wS.heap.size 76 iN _ 5 40 Tryz.underlying43 hiN hz0 hz1 hz2 rfl (by omega) (.slice va l.length vc) l.length (nd5sV l) (by rfl) ((hown.alloc _).drew) ⟨w.heap.size,0,none⟩ 1 1 (nd5V ⟨k,ks.length,wd,f,te⟩) (by rfl) (by rfl) (World.news_of_block (cs:=(nd5V ⟨k,ks.length,wd,f,te⟩).toArray) (t:=76) (fr:=(0,0)) (heap_alloc_new w _)) (by simp [nd5V,Value.oneCell']) (by omega) (by unfold maxLen;omega) (by omega) (by simp;omega) (w.heap.size+1) (by simp) ?_
    intro gg cap2 w2 hown2 hgrow2 hat2 hlt2
    have k2:w2.cell? ⟨Bp,1,none⟩=some (.slice va l.length vc):=(hgrow2.cell_far _ (by simp;omega) (Ne.symm hoc)).trans (hpc _)
    have z2:w2.frozen? ⟨Bp,1,none⟩=false:=(hgrow2.frozen_far _ (by simp;omega) (Ne.symm hoc)).trans (hpz _)
    have hap:∀ i:Nat,w2.cell? ⟨q,i,none⟩=w.cell? ⟨q,i,none⟩:=fun i=>(hgrow2.cell_far ⟨q,i,none⟩ (by simp;omega) (Ne.symm hqo)).trans (hal i _)
    have hst:∀ i:Nat,(w2.setCell ⟨Bp,1,none⟩ (.slice (some ⟨gg,0,none⟩) (l.length+1) cap2)).cell? ⟨q,i,none⟩=w.cell? ⟨q,i,none⟩:=fun i=>(World.cell?_setCell_far w2 ⟨Bp,1,none⟩ ⟨q,i,none⟩ _ hqp).trans (hap i)
    have HPS:=Lib.hid (pars_step (x:=⟨k,ks.length,wd,f,te⟩) hBp hF hp hown hgrow2 hown2)
    clear hgrow2 hown2
    refine hK.out _ _ ?_ (fun hHeld25=>?_)
    ·((try dsimp only);(first|exact⟨q0,q1,q2,q3,q4⟩|exact⟨(hal 0 _).trans q0,(hal 1 _).trans q1,(hal 2 _).trans q2,(hal 3 _).trans q3,(hal 4 _).trans q4⟩|exact⟨(hap 0).trans q0,(hap 1).trans q1,(hap 2).trans q2,(hap 3).trans q3,(hap 4).trans q4⟩|exact⟨(hst 0).trans q0,(hst 1).trans q1,(hst 2).trans q2,(hst 3).trans q3,(hst 4).trans q4⟩))
    clear hK K
    try simp only [Act.put,List.setIfInBounds_toArray,List.set_cons_zero,List.set_cons_succ]
    refine tk 26 ?_;try simp only [Act.put,ls]
    refine wpAnyH_ready (rs:=[27]) (by kernel_rfl) (by simp) (AllReadyH.cons (o:=?_) ?_ (fun K hK=>?_) AllReadyH.nil)
    rotate_left
    ·(first|(simp only [List.getElem?_toArray,List.getElem?_cons_succ,List.getElem?_cons_zero];done)|(simp only [List.getElem?_toArray,List.getElem?_cons_succ,List.getElem?_cons_zero];exact rfl))
    go_simp
    go_wp2_with fail
    refine hK.out _ _ ?_ (fun hHeld27=>?_)
    ·((try dsimp only);(first|exact⟨q0,q1,q2,q3,q4⟩|exact⟨(hal 0 _).trans q0,(hal 1 _).trans q1,(hal 2 _).trans q2,(hal 3 _).trans q3,(hal 4 _).trans q4⟩|exact⟨(hap 0).trans q0,(hap 1).trans q1,(hap 2).trans q2,(hap 3).trans q3,(hap 4).trans q4⟩|exact⟨(hst 0).trans q0,(hst 1).trans q1,(hst 2).trans q2,(hst 3).trans q3,(hst 4).trans q4⟩))
    clear hK K
    try simp only [Act.put,List.setIfInBounds_toArray,List.set_cons_zero,List.set_cons_succ]
    refine wpAnyH_done (by kernel_rfl) ?_ _
    go_wp2_with fail
    go_meet
    case rel=>exact HPS.out
  case rest =>
   clear p1 pf hpc hpz pA hal hsz hlt hoc hqlt hqo hqp q0 q1 q2 q3 q4 hown hq1 hp hF hiN hz0 hz1 hz2
   have hP1:=hcut
   have hk4:∀ {l9:List Nd5}{wx:World},Pars wS Bp tv l9 wx→wx.cell? ⟨q,4,none⟩=some (.slice ka ks.length cap):=fun h=>by
    obtain⟨_,_,_,hF⟩:=h
    have h1:=hF.at_ (k:=q) (by simp;exact hD.2) hq
    simp [World.cell?,h1]
   have hw4:∀ {l9:List Nd5}{wx:World},Pars wS Bp tv l9 wx→wx.cell? ⟨Bw,0,none⟩=some (.func (.func 34) #[] #[.pointer (some ⟨Bp,0,none⟩),.pointer (some ⟨Bw,0,none⟩)]):=fun h=>by
    obtain⟨_,_,_,hF⟩:=h
    exact hF.cell (a:=⟨Bw,0,none⟩) (by simpa using hne) hBw
   have HK4:Hid (∀ (l9:List Nd5) (wx:World),Pars wS Bp tv l9 wx→wx.cell? ⟨q,4,none⟩=some (.slice ka ks.length cap)):=fun _ _ h=>hk4 h
   have HW4:Hid (∀ (l9:List Nd5) (wx:World),Pars wS Bp tv l9 wx→wx.cell? ⟨Bw,0,none⟩=some (.func (.func 34) #[] #[.pointer (some ⟨Bp,0,none⟩),.pointer (some ⟨Bw,0,none⟩)])):=fun _ _ h=>hw4 h
   have c4:=hk4 hP1
   clear hk4 hw4 hcut
   have hcf:∀ (p1:Nat) (w1:World),Sem.run Tryz.prog (callFunc 34 #[.pointer (some ⟨p1,0,none⟩),.pointer (some ⟨Bp,0,none⟩),.pointer (some ⟨Bw,0,none⟩)]) w1=.ok (.enter 34 #[.pointer (some ⟨p1,0,none⟩),.pointer (some ⟨Bp,0,none⟩),.pointer (some ⟨Bw,0,none⟩)]) w1:=fun _ _=>enters (by kernel_rfl) _ _
   have HT:=Lib.hid (And.intro hrow (And.intro htr (And.intro ht hl)))
   clear hrow htr ht hl hT hD hq
   have hkl:((ks.length:Nat):Int)≤1000000000:=by have h1:=cntL_ge ks;have h2:=HT.out.2.2.2;simp only [cnt] at h2;omega
   go_wp2_with fail
   go_loopg [38] ks.length (fun j v wr=>∃ i:Nat,v=.int .i64 (i:Int)∧i+j=ks.length∧Pars wS Bp tv (l++[⟨k,ks.length,wd,f,te⟩]++nodesL (ks.take i)) wr)
   case atStart=>exact⟨0,rfl,by omega,by simpa [nodesL] using hP1⟩
   case round =>
    clear hP1 c4
    obtain⟨i,rfl,hij,hPi⟩:=hrel
    have c4:=HK4.out _ _ hPi
    have cw:=HW4.out _ _ hPi
    by_cases hlt:i < ks.length
    ·have hd:decide (((i:Nat):Int) < ((ks.length:Nat):Int))=true:=by simpa using hlt
     have hi0:(0:Int)≤(i:Int):=by omega
     have hi1:(i:Int) < (ks.length:Int):=by omega
     have hwr:IntKind.i64.wrap ((i:Int)+1)=(i:Int)+1:=by simp [IntKind.wrap,IntKind.bits,IntKind.signed];omega
     obtain⟨x,hx⟩:∃ x,ks[i]?=some x:=⟨_,List.getElem?_eq_getElem hlt⟩
     obtain⟨p1,hp1,hTp⟩:=TreesAt.get i x HT.out.2.1 hx
     rcases HT.out.1 with he|⟨b,o,rfl,hb,hrc⟩
     ·rw [he] at hp1;simp at hp1
     have hcell:∀ {l9:List Nd5}{wx:World},Pars wS Bp tv l9 wx→wx.cell? ⟨b,o+i,none⟩=some (.pointer (some ⟨p1,0,none⟩)):=fun h=>by
      obtain⟨_,_,_,hF⟩:=h
      exact hF.cell (a:=⟨b,o+i,none⟩) (by simpa using hb.2) (hrc i p1 hp1)
     have ck:=hcell hPi
     clear hcell hrc
     have HPI:=Lib.hid hPi
     have hbound:=take_bound hx
     go_wp2_with fail
     refine (IH.out x (by have:=HT.out.2.2.1;simp only [cnt] at this;omega) p1 _ _ hTp HPI.out ?_).mono ?_
     ·have:=HT.out.2.2.2;simp only [cnt] at this;simp only [List.length_append,List.length_cons,List.length_nil,nodesL_len];omega
     rintro e w5 ⟨rfl,hP5⟩
     clear c4 cw ck HPI hPi
     go_wp2_with fail
     go_roundg (ks.length - (i+1))
     case measure=>omega
     case rel=>exact⟨i+1,by simp,by omega,by rw [take_step hx,nodesL_append];simpa [nodesL] using hP5⟩
    ·have hd:decide (((i:Nat):Int) < ((ks.length:Nat):Int))=false:=by simpa using hlt
     have hie:i=ks.length:=by omega
     go_wp2_with fail
     go_returns
     refine⟨rfl,?_⟩
     rw [hie,List.take_length] at hPi
     simpa [nodes] using hPi
end
section
open Go.RowKit
variable {w w':World}
theorem readT_ne {N:List UInt8→NestR} (HN:NestLaw N) {goal:UInt8}{s:List UInt8}{e a:Nat} (h:readT N goal s=.bad e a):e≠0:=by
 unfold readT at h
 split at h
 ·cases h;decide
 ·split at h
  ·rename_i hN
   cases h;exact HN.bad _ _ _ hN
  ·split at h
   ·cases h
   ·cases h;decide
   ·rename_i hT;exact absurd hT treeT_ne
theorem readT_cnt {N:List UInt8→NestR} (HN:NestLaw N) {goal:UInt8}{s:List UInt8}{l:List Tk}{t:Tr} (h:readT N goal s=.ok l t):cnt t≤20000005:=by
 unfold readT at h
 split at h
 ·cases h
 ·split at h
  ·cases h
  ·rename_i l p hN
   split at h
   ·rename_i t m hT
    cases h
    have h1:=treeT_cnt hT
    have h2:=(HN.fit _ _ _ hN).small
    simp only at h1
    omega
   ·cases h
   ·cases h
def ParseAns (r:ReadR) (w:World) (e:Ending) (w':World):Prop :=
 match r with
 | .bad err a=>e=.returned (.tuple #[.agg #[.slice none 0 0,.slice none 0 0],faultV err a])∧Below w.heap.size w w'
 | .ok l t=>∃ tv nv,e=.returned (.tuple #[.agg #[tv,nv],faultV 0 0])∧w'.ownsRow w.heap.size 62 3 tv l.length (tokV l)∧w'.ownsRow w.heap.size 76 5 nv (nodes t).length (nd5sV (nodes t))∧Below w.heap.size w w'
theorem below_fr {X:List Nat}{w0 w1 w2:World} (h:Fr X w1 w2) (hb:Below w0.heap.size w0 w1) (hX:∀ x∈X,w0.heap.size≤x):Below w0.heap.size w0 w2 :=
 hb.trans ⟨h.os,h.tape,h.output,h.size,fun k hk=>h.block k (by have:=hb.size;omega) (fun m=>by have:=hX k m;omega)⟩
theorem store2 {b:Nat}{x y:Value}{T:TypeId} (h:w.heap[b]?=some (.cells #[x,y] T (0,0))) (x' y':Value):((w.setCell ⟨b,0,none⟩ x').setCell ⟨b,1,none⟩ y').heap[b]?=some (.cells #[x',y'] T (0,0))∧Fr [b] w ((w.setCell ⟨b,0,none⟩ x').setCell ⟨b,1,none⟩ y'):=by
 have s2:=heap_setCell_same (w.setCell ⟨b,0,none⟩ x') b 1 _ _ y' (heap_setCell_same w b 0 _ _ x' h)
 simp only [List.setIfInBounds_toArray,List.set_cons_zero,List.set_cons_succ] at s2
 exact⟨s2,(fr_set b 0 w _).trans (fr_set b 1 _ _)⟩
theorem two_cells {b:Nat}{x y:Value}{T:TypeId} (h:w.heap[b]?=some (.cells #[x,y] T (0,0))):w.cell? ⟨b,0,none⟩=some x∧w.cell? ⟨b,1,none⟩=some y∧w.frozen? ⟨b,0,none⟩=false∧w.frozen? ⟨b,1,none⟩=false:=by
 refine⟨?_,?_,?_,?_⟩ <;> simp [World.cell?,World.frozen?,h]
theorem parse_walk {N:List UInt8→NestR} (HN:NestLaw N) (goal:UInt8) (s:List UInt8) (w:World) (hw:Tabs w) :
  Calls Tryz.prog 22 #[.int .u8 (goal.toNat:Int),.string ⟨s.toArray⟩] w (ParseAns (readT N goal s) w):=by
 have HNN:=Lib.hid HN;clear HN
 go_enter Tryz.func22,Tryz.ntmps22
 have h4:=heap_alloc_new w (.cells #[.slice none 0 0,.slice none 0 0] 45)
 have h5:=heap_alloc_new (w.alloc (.cells #[.slice none 0 0,.slice none 0 0] 45)) (.cells #[.int .i64 0,.int .i64 0] 28)
 have h4':=(((Below.refl (w.alloc (.cells #[.slice none 0 0,.slice none 0 0] 45)).heap.size _).alloc (Nat.le_refl _) (Obj.cells #[.int .i64 0,.int .i64 0] 28)).block w.heap.size (by simp)).trans h4
 have hB:=((Below.refl w.heap.size w).alloc (Nat.le_refl _) (Obj.cells #[.slice none 0 0,.slice none 0 0] 45)).alloc (by simp) (Obj.cells #[.int .i64 0,.int .i64 0] 28)
 have HW:=Lib.hid (hw.below hB);clear hw
 have hsz:((w.alloc (.cells #[.slice none 0 0,.slice none 0 0] 45)).alloc (.cells #[.int .i64 0,.int .i64 0] 28)).heap.size=w.heap.size+1+1:=by simp
 rw [World.size_alloc] at h5
 go_wp2_with fail
 generalize ((w.alloc (.cells #[.slice none 0 0,.slice none 0 0] 45)).alloc (.cells #[.int .i64 0,.int .i64 0] 28))=wA at *
 clear h4
 refine (read_walk HNN.out goal s wA HW.out).mono ?_
 intro e w1 hA
 cases hr:readT N goal s with
 | bad er a =>
  rw [hr] at hA
  obtain⟨va,vn,vc,rfl,hb⟩:=hA
  have hne:((er:Nat):Int)≠0:=by have:=readT_ne HNN.out hr;omega
  have hne2:(((er:Nat):Int)==0)=false:=by simpa using hne
  have k4:=(hb.block _ (by omega)).trans h4'
  have k5:=(hb.block _ (by omega)).trans h5
  have hs1:=hb.size
  have j4:=(((Below.refl w1.heap.size w1).alloc (Nat.le_refl _) (Obj.cells #[.int .i64 (er:Int),.int .i64 (a:Int)] 28)).block w.heap.size (by omega)).trans k4
  have j5:=(((Below.refl w1.heap.size w1).alloc (Nat.le_refl _) (Obj.cells #[.int .i64 (er:Int),.int .i64 (a:Int)] 28)).block (w.heap.size+1) (by omega)).trans k5
  have j8:=heap_alloc_new w1 (.cells #[.int .i64 (er:Int),.int .i64 (a:Int)] 28)
  have HB2:=((hB.trans (hb.mono (by omega))).alloc (by omega) (Obj.cells #[.int .i64 (er:Int),.int .i64 (a:Int)] 28))
  have hn1:w1.heap.size≠w.heap.size:=by omega
  have hn2:w1.heap.size≠w.heap.size+1:=by omega
  have HN:=Lib.hid (And.intro hn1 hn2)
  unfold faultV
  go_wp2_with fail
  generalize w1.alloc (.cells #[.int .i64 (er:Int),.int .i64 (a:Int)] 28)=w2 at *
  obtain⟨c1,c2,c3,c4⟩:=two_cells j4
  obtain⟨d1,d2,d3,d4⟩:=two_cells j5
  obtain⟨e1,e2,e3,e4⟩:=two_cells j8
  obtain⟨s1,s2⟩:=store2 j4 (.slice none 0 0) (.slice none 0 0)
  obtain⟨s3,s4⟩:=store2 (s2.at_ (by simp) j5) (.int .i64 (er:Int)) (.int .i64 (a:Int))
  have s5:=s4.at_ (by simp) s1
  have HB3:=Lib.hid ((((HB2.setCell (p:=⟨w.heap.size,0,none⟩) (Nat.le_refl _) (.slice none 0 0)).setCell (p:=⟨w.heap.size,1,none⟩) (Nat.le_refl _) (.slice none 0 0)).setCell (p:=⟨w.heap.size+1,0,none⟩) (Nat.le_succ _) (.int .i64 (er:Int))).setCell (p:=⟨w.heap.size+1,1,none⟩) (Nat.le_succ _) (.int .i64 (a:Int)))
  clear s1 s2 s4 HB2 h5 h4' hB hb k4 k5 j4 j5 j8 hs1 hsz
  go_region
  all_goals (go_wp2_with fail)
  all_goals (
   generalize ((((w2.setCell ⟨w.heap.size,0,none⟩ (.slice none 0 0)).setCell ⟨w.heap.size,1,none⟩ (.slice none 0 0)).setCell ⟨w.heap.size+1,0,none⟩ (.int .i64 (er:Int))).setCell ⟨w.heap.size+1,1,none⟩ (.int .i64 (a:Int)))=w3 at *
   obtain⟨y1,y2,_,_⟩:=two_cells s5
   obtain⟨y3,y4,_,_⟩:=two_cells s3
   refine bodyPost_ret (v:=.tuple #[.agg #[.slice none 0 0,.slice none 0 0],faultV er a]) ?_ rfl ?_
   ·simp [results,Tryz.results22,go_sem,y1,y2,y3,y4,faultV]
   ·rw [hr];exact⟨rfl,HB3.out.drew⟩)
 | ok l t =>
  rw [hr] at hA
  obtain⟨tv,q,rfl,ht,hN,hb⟩:=hA
  obtain⟨ta,tc,rfl⟩:=slice_of_row ht
  unfold faultV
  have hcf:∀ (p1 b1 b2:Nat) (w1:World),Sem.run Tryz.prog (callFunc 34 #[.pointer (some ⟨p1,0,none⟩),.pointer (some ⟨b1,0,none⟩),.pointer (some ⟨b2,0,none⟩)]) w1=.ok (.enter 34 #[.pointer (some ⟨p1,0,none⟩),.pointer (some ⟨b1,0,none⟩),.pointer (some ⟨b2,0,none⟩)]) w1:=fun _ _ _ _=>enters (by kernel_rfl) _ _
  obtain⟨b8,b9,b10,hB3,hsz3⟩:=boxes3 w1 (.cells #[.int .i64 0,.int .i64 0] 28) (.cells #[.slice ta l.length tc,.slice none 0 0] 45) (.cells #[.nilFunc] 57)
  go_upto_region 6 with fail
  generalize (((w1.alloc (.cells #[.int .i64 0,.int .i64 0] 28)).alloc (.cells #[.slice ta l.length tc,.slice none 0 0] 45)).alloc (.cells #[.nilFunc] 57))=wB at *
  have c10:wB.cell? ⟨w1.heap.size+1+1,0,none⟩=some .nilFunc:=by simp [World.cell?,b10]
  have f10:wB.frozen? ⟨w1.heap.size+1+1,0,none⟩=false:=by simp [World.frozen?,b10]
  have k10:=heap_setCell_same wB (w1.heap.size+1+1) 0 _ _ (.func (.func 34) #[] #[.pointer (some ⟨w1.heap.size+1,0,none⟩),.pointer (some ⟨w1.heap.size+1+1,0,none⟩)]) b10
  have g10:=fr_set (w1.heap.size+1+1) 0 wB (.func (.func 34) #[] #[.pointer (some ⟨w1.heap.size+1,0,none⟩),.pointer (some ⟨w1.heap.size+1+1,0,none⟩)])
  have k9:=g10.at_ (k:=w1.heap.size+1) (by simp) b9
  have k8:=g10.at_ (k:=w1.heap.size) (by simp;omega) b8
  have hFS:Fr [w1.heap.size+1+1] w1 (wB.setCell ⟨w1.heap.size+1+1,0,none⟩ (.func (.func 34) #[] #[.pointer (some ⟨w1.heap.size+1,0,none⟩),.pointer (some ⟨w1.heap.size+1+1,0,none⟩)])):=(Fr.below hB3).trans g10
  have hszS:(wB.setCell ⟨w1.heap.size+1+1,0,none⟩ (.func (.func 34) #[] #[.pointer (some ⟨w1.heap.size+1,0,none⟩),.pointer (some ⟨w1.heap.size+1+1,0,none⟩)])).heap.size=w1.heap.size+1+1+1:=by simpa using hsz3
  have c10':(wB.setCell ⟨w1.heap.size+1+1,0,none⟩ (.func (.func 34) #[] #[.pointer (some ⟨w1.heap.size+1,0,none⟩),.pointer (some ⟨w1.heap.size+1+1,0,none⟩)])).cell? ⟨w1.heap.size+1+1,0,none⟩=some (.func (.func 34) #[] #[.pointer (some ⟨w1.heap.size+1,0,none⟩),.pointer (some ⟨w1.heap.size+1+1,0,none⟩)]):=by simp [World.cell?,k10]
  go_wp2_with fail
  generalize wB.setCell ⟨w1.heap.size+1+1,0,none⟩ (.func (.func 34) #[] #[.pointer (some ⟨w1.heap.size+1,0,none⟩),.pointer (some ⟨w1.heap.size+1+1,0,none⟩)])=wS at *
  have hP0:Pars wS (w1.heap.size+1) (.slice ta l.length tc) [] wS:=⟨_,k9,World.ownsRow_nil _ _ _ _,Fr.refl _ _⟩
  have hTS:TreeAt wS (treeD wS (w1.heap.size+1)) q t:=TreeAt.kept (w:=w1) (w':=wS) (D:=within wA.heap.size w1.heap.size) (D':=treeD wS (w1.heap.size+1)) (fun b hb'=>hFS.block b hb'.2 (by have:=hb'.2;simp;omega)) (fun b hb'=>⟨by have:=hb'.2;omega,by have:=hb'.2;omega⟩) q t hN
  refine (parse_rec wS (w1.heap.size+1) (w1.heap.size+1+1) (.slice ta l.length tc) (by omega) c10' (by omega) (cnt t) t (Nat.le_refl _) q [] wS hTS hP0 (by have:=readT_cnt HNN.out hr;simp;omega)).mono ?_
  rintro e w5 ⟨rfl,nv,n1,n2,n3⟩
  rw [List.nil_append] at n2
  have HZ:=Lib.hid (And.intro ht (And.intro hFS (And.intro n2 (And.intro n3 (And.intro hszS (And.intro hsz (And.intro hb hB)))))))
  have hsb:=hb.size
  have m5:=n3.at_ (k:=w.heap.size+1) (by simp;omega) (hFS.at_ (k:=w.heap.size+1) (by simp;omega) ((hb.block _ (by omega)).trans h5))
  have m4:=n3.at_ (k:=w.heap.size) (by simp;omega) (hFS.at_ (k:=w.heap.size) (by simp;omega) ((hb.block _ (by omega)).trans h4'))
  have m8:=n3.at_ (k:=w1.heap.size) (by simp) k8
  clear ht hFS n2 n3 hb hB hP0 hTS k8 k9 k10 b8 b9 b10 c10 c10' f10 h5 h4' hN hsz3 hB3 g10
  obtain⟨na,nc,rfl⟩:=slice_of_row HZ.out.2.2.1
  go_wp2_with fail
  have hn1:w1.heap.size≠w.heap.size:=by omega
  have hn2:w1.heap.size≠w.heap.size+1:=by omega
  have hn3:w1.heap.size+1≠w.heap.size:=by omega
  have hn4:w1.heap.size+1≠w.heap.size+1:=by omega
  obtain⟨c1,c2,c3,c4⟩:=two_cells m4
  obtain⟨d1,d2,d3,d4⟩:=two_cells m5
  obtain⟨e1,e2,e3,e4⟩:=two_cells m8
  obtain⟨g1,g2,g3,g4⟩:=two_cells n1
  obtain⟨s1,s2⟩:=store2 m4 (.slice ta l.length tc) (.slice na (nodes t).length nc)
  obtain⟨s3,s4⟩:=store2 (s2.at_ (by simp) m5) (.int .i64 0) (.int .i64 0)
  have s5:=s4.at_ (by simp) s1
  have HS:=Lib.hid (And.intro s2 s4)
  have HN:=Lib.hid hsb
  clear s1 s2 s4 m4 m5 m8 n1 hsb hszS hsz
  go_region
  all_goals (go_wp2_with fail)
  all_goals (
   generalize ((((w5.setCell ⟨w.heap.size,0,none⟩ (.slice ta l.length tc)).setCell ⟨w.heap.size,1,none⟩ (.slice na (nodes t).length nc)).setCell ⟨w.heap.size+1,0,none⟩ (.int .i64 0)).setCell ⟨w.heap.size+1,1,none⟩ (.int .i64 0))=w3 at *
   obtain⟨y1,y2,_,_⟩:=two_cells s5
   obtain⟨y3,y4,_,_⟩:=two_cells s3
   refine bodyPost_ret (v:=.tuple #[.agg #[.slice ta l.length tc,.slice na (nodes t).length nc],faultV 0 0]) ?_ rfl ?_
   ·simp [results,Tryz.results22,go_sem,y1,y2,y3,y4,faultV]
   ·rw [hr]
    obtain⟨z1,z2,z3,z4,z5,z6,z7,z8⟩:=HZ.out
    obtain⟨x1,x2⟩:=HS.out
    have hsb:=HN.out
    have hD:Fr [] w3 w3.drew:=Fr.below (Below.refl _ _).drew
    refine⟨_,_,rfl,?_,?_,?_⟩
    ·refine rows_low (lo:=wA.heap.size) (rows_later (rows_later (rows_later (rows_later (rows_later z1 z2 ?_) z4 ?_) x1 ?_) x2 ?_) hD (by simp)) (by omega)
     all_goals (intro b hb e;simp at hb;have:=z1.lt b e;omega)
    ·refine rows_low (lo:=wS.heap.size) (rows_later (rows_later (rows_later z3 x1 ?_) x2 ?_) hD (by simp)) (by omega)
     all_goals (intro b hb e;simp at hb;have:=z3.lt b e;omega)
    ·have b1:=z8.trans (z7.mono (show w.heap.size≤wA.heap.size by omega))
     exact (below_fr x2 (below_fr x1 (below_fr z4 (below_fr z2 b1 (by simp;omega)) (by simp;omega)) (by simp)) (by simp)).drew)
end
end Go.Proofs.YtiifmpgpfijdgaaGreatDoor
