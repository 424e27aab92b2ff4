import Derived.Test.YtfmpphplbdojbaaGreatDoorZTA
import Derived.Test.YtfmpphplbdojbaaGreatDoorQBO
import Derived.Deep.Strs
import Derived.Test.YtfmpphplbdojbaaGreatDoorQBP
namespace Go.Proofs.YtfmpphplbdojbaaGreatDoor
open _root_.Go.Lib(hid)
set_option linter.all false
set_option maxHeartbeats 40000000
set_option maxRecDepth 100000
namespace Ck
open Go.RowKit
open Grd (Pt Fo tB)
open Rnd (DQ2 pQ2 AQ2)
variable {w w':World}
def ptc (p:Pt):List Value:=[.int .u8 (p.k.toNat:Int),.int .i64 p.n,.string ⟨p.w.toArray⟩]
def pcl (l:List Pt):List Value:=l.flatMap ptc
theorem vQ6:∀ l:List Pt,(pcl l).length=l.length*3
 | []=>rfl
 | p::r=>by have:=vQ6 r;simp only [pcl,List.flatMap_cons,O',Ab,ptc,Aj] at this ⊢;omega
theorem nQ7:∀ (l:List Pt) (j:Nat) (p:Pt) (d:Nat),l[j]?=some p->d < 3->(pcl l)[j*3+d]?=(ptc p)[d]?
 | [],_,_,_,h,_=>Ha
 | q::l,0,p,d,h,hd=>by
  simp only [H',Option.some.injEq] at h;subst h;simp only [pcl,List.flatMap_cons,Nat.zero_mul,Nat.zero_add];rw [List.getElem?_append_left (by simp [ptc];omega)]
 | q::l,j+1,p,d,h,hd=>by
  rw [F'] at h;have:=nQ7 l j p d h hd;simp only [pcl,List.flatMap_cons] at this ⊢;rw [Au (by simp [ptc];omega)];rw [<- this];congr 1;simp [ptc];omega
theorem TQ8 (l:List Pt):∀ u∈pcl l,u.oneCell'=true:=by
 intro u hu;obtain⟨p,_,hp⟩:=List.mem_flatMap.1 hu;simp only [ptc,List.mem_cons,List.not_mem_nil,or_false] at hp;rcases hp with rfl|rfl|rfl <;> rfl
theorem LQ8 (b o j:Nat):(⟨b,o,none⟩:Addr).add j=⟨b,o+j,none⟩:=by
 unfold Addr.add;split
 ·rename_i h;subst h;rfl
 ·exact Ct
theorem AQ8 {W:World}{b o:Nat}{l:List Pt} (h:∀ j p,l[j]?=some p->W.cell? ⟨b,o+j*3,none⟩=some (.int .u8 (p.k.toNat:Int))/\W.cell? ⟨b,o+j*3+1,none⟩=some (.int .i64 p.n)/\W.cell? ⟨b,o+j*3+2,none⟩=some (.string ⟨p.w.toArray⟩)) :
  ∀ j u,(pcl l)[j]?=some u->W.cell? ((⟨b,o,none⟩:Addr).add j)=some u:=by
 intro j u hu;have hj:=(Ai.1 hu).1;rw [vQ6] at hj;have hq:l[j / 3]?=some (l[j / 3]' Cf):=M' _;have h1:=nQ7 l (j / 3) _ (j % 3) hq Cf;rw [show j / 3*3+j % 3=j by omega,hu] at h1;obtain⟨a,b,c⟩:=h _ _ hq;rw [LQ8];have h3:j % 3=0∨j % 3=1∨j % 3=2:=Cf
 rcases h3 with e|e|e
 ·rw [e] at h1;simp only [ptc,H'] at h1;rw [h1,<- a];congr 2;omega
 ·rw [e] at h1;simp only [ptc,H',F'] at h1;rw [h1,<- b];congr 2;omega
 ·rw [e] at h1;simp only [ptc,H',F'] at h1;rw [h1,<- c];congr 2;omega
theorem XQ7 {W:World}{base g cap:Nat}{l:List Pt} (h:W.ownsRow base 46 3 (.slice (some ⟨g,0,none⟩) l.length cap) l.length (pcl l)):tB W (some ⟨g,0,none⟩) l:=by
 refine .inr ⟨g,0,rfl,(h.lt g rfl).2,fun j p hj=>?_⟩;have hjl:=(Ai.1 hj).1;have e0:=h.cellAt (j*3+0) Cf;have e1:=h.cellAt (j*3+1) Cf;have e2:=h.cellAt (j*3+2) Cf;rw [nQ7 l j p _ hj Cf] at e0 e1 e2;refine⟨?_,?_,?_⟩
 ·rw [Nat.zero_add];exact e0
 ·rw [Nat.zero_add];exact e1
 ·rw [Nat.zero_add];exact e2
theorem Tryz.infoPt:(Tryz.prog.info? 46).map (fun i=>(i.zero,i.size,i.bytes))=some (some (.agg #[.int .u8 0,.int .i64 0,.string ⟨#[]⟩]),3,32):=Ci
theorem bQ7 (l:List Pt) (r:Nat->List UInt8):∃ (S:List UInt8) (er:Int),DQ2 l r=.tuple #[.string ⟨S.toArray⟩,.int .i64 er]:=by
 unfold DQ2 AQ2;split
 ·exact⟨_,_,rfl⟩
 ·exact⟨[],8,rfl⟩
theorem iQ6 {P:Prop} (hh:P:=by
 go_wp2_with fail;refine HT2.out.mono ?_;rintro e w3 ⟨rfl,hb3⟩;have HB3:=hid (dA HB2.out hb3);clear hb3;go_wp2_with fail;refine (HX.out w3 HB3.out).mono ?_;rintro e w4 ⟨rfl,hb4⟩;have HB4:=hid (dA HB3.out hb4);clear hb4;go_wp2_with fail;refine (HF.out w4 HB4.out).mono ?_;rintro e w5 ⟨rfl,hb5⟩;have HB5:=hid (dA HB4.out hb5);clear hb5;go_wp2_with fail;go_ret;exact⟨rfl,HB5.out⟩):P:=hh
theorem texts_law (a1:Option Addr) (c1:Nat) {l:List Pt} (hp:tB w a1 l) (hl:l.length<=140737488351232) (hwl:∀ p∈l,p.w.length<=140737488351232) (hT:NC w) (hz:a1=none->c1=0) :
  Calls Tryz.prog 3 #[.slice a1 l.length c1] w fun e w'=>e=.returned (.bool true)/\Below w.heap.size w w':=by
 have HG:=hid (rQ7 a1 none c1 0 l [] hp (.inl rfl) Cf Cm hwl Cm);have HF:=hid (fun (w1:World) (h:Below w.heap.size w w1)=>Rnd.FQ2 (hT.below h));have hR0:aQ5 []=0:=rfl;simp only [Aj,Nat.add_zero,hR0] at HG;by_cases hbig:1500 < l.length+RQ4 l
 ·rw [decide_eq_true hbig] at HG;clear hp hwl hT hl hbig hR0;generalize l.length=n at *;go_enter Tryz.func3,Tryz.ntmps3;go_wp2_with fail;refine HG.out.mono ?_;rintro e w1 ⟨rfl,hw1⟩;replace hw1:=hw1.symm;subst hw1;go_wp2_with fail;refine (HF.out w (J' _ _)).mono ?_;rintro e w3 ⟨rfl,hb3⟩;go_wp2_with fail;go_ret;exact⟨rfl,hb3⟩
 ·rw [decide_eq_false hbig] at HG;have hws:=vQ9 l;replace hwl:∀ p∈l,p.w.length<=1048576:=fun p hp=>by have:=KQ9 hp;omega
  have HX:Hid (∀ w1,Below w.heap.size w w1->Calls Tryz.prog 11 #[.slice a1 l.length c1] w1 fun e w'=>e=.returned (DQ2 l fun _=>[])/\Below w1.heap.size w1 w'):=hid fun w1 hb=>eQ7 a1 c1 l Cf (hp.later hb) hwl Cf
  have HY:Hid (∀ w1,Below w.heap.size w w1->∀ a c,tB w1 a l->Calls Tryz.prog 10 #[.slice a l.length c] w1 fun e w'=>e=.returned (DQ2 l fun _=>[])/\Below w1.heap.size w1 w'):=hid fun w1 hb a c hpa =>
   Rnd.nQ3 a c l hpa Cf hwl (hT.below hb) fun hc=>by have:=Rnd.pQ3 l (fun _=>[]) hc;rw [Rnd.MQ2] at this;omega
  obtain⟨S,er,hV⟩:=bQ7 l fun _=>[]
  rw [hV] at HX HY;obtain⟨iN,hiN,hz0,hz1,hz2⟩:=info_parts Tryz.infoPt;by_cases h0:l=[]
  ·subst h0;clear hp hwl hT hl hbig hws hV hR0;go_enter Tryz.func3,Tryz.ntmps3;go_wp2_with fail;refine HG.out.mono ?_;rintro e w1 ⟨rfl,hw1⟩;replace hw1:=hw1.symm;subst hw1;go_wp2_with (at_builtin;refine wpList_append_fits_any _ rfl (.tmp 11) (.tmp 12) 22 rfl w.heap.size 46 iN 3 Tryz.underlying22 hiN hz1 w.heap.size 0 0 [] rfl (World.ownsRow_lit w #[] 0 (C' _) (Nat.zero_le _) rfl) a1 0 c1 [] rfl rfl (fun e=>⟨rfl,hz e⟩) (fun _ _ j u hu=>by simp at hu) (fun u hu=>by cases hu) (C' _) ?_);intro w2 hown2 hgrow2;have hb2:Below w.heap.size w w2:=((J' w.heap.size w).alloc (C' _) _).grown hgrow2 Cm (fun k hk=>by cases hk;exact C' _);have HB2:=hid hb2;have HT2:=hid (HY.out w2 hb2 (some ⟨w.heap.size,0,none⟩) 0 (.inl rfl));clear hown2 hgrow2 hb2 hiN hz0 hz1 hz2 hz;exact iQ6
  ·obtain⟨b,o,rfl,hb,hc⟩:=hp.resolve_left h0;have hpos:0 < l.length:=List.length_pos_iff.2 h0;have HC:=hid hc;have HB:=hid hb;obtain⟨n,hn⟩:∃ n,n=l.length:=⟨_,rfl⟩;rw [<- hn] at HG HX HY hl hpos ⊢;have HN:=hid hn;have hn15:n<=1500:=by omega
   clear hp hwl hT hl hbig hws hV hR0 h0 hc hb hn;go_enter Tryz.func3,Tryz.ntmps3;go_wp2_with fail;refine HG.out.mono ?_;rintro e w1 ⟨rfl,hw1⟩;replace hw1:=hw1.symm;subst hw1;go_wp2_with (at_builtin;refine wpList_append_lies _ rfl (.tmp 11) (.tmp 12) 22 rfl w.heap.size 46 iN _ 3 32 Tryz.underlying22 hiN hz0 hz1 hz2 rfl Cf (.slice (some ⟨w.heap.size,0,none⟩) 0 0) 0 [] rfl (World.ownsRow_lit w #[] 0 (C' _) (Nat.zero_le _) rfl) ⟨b,o,none⟩ n c1 (pcl l) rfl (by rw [vQ6,HN.out]) (fun j u hu=>(((J' w.heap.size w).alloc (C' _) _).cell (by rw [LQ8];exact HB.out)).trans (AQ8 HC.out j u hu)) (TQ8 l) Cf Cu Cf Cm (w.heap.size+1) Cm ?_);intro gg cap w2 hown2 hgrow2 hat2 hlt2;have hb2:Below w.heap.size w w2:=((J' w.heap.size w).alloc (C' _) _).grown hgrow2 Cm (fun k hk=>by simp only [Value.ownBlock,Option.some.injEq] at hk;omega)
   try simp only [Nat.zero_add,Ao] at hown2
   have hpa:tB w2 (some ⟨gg,0,none⟩) l:=XQ7 (cap:=cap) (base:=w.heap.size) (by rw [<- HN.out];exact hown2);have HB2:=hid hb2;have HT2:=hid (HY.out w2 hb2 _ cap hpa);clear hown2 hgrow2 hat2 hlt2 hb2 hpa hiN hz0 hz1 hz2 hz;exact iQ6
end Ck
section
open Go.ChangeShapes Go.WideShapes Go.ChangeAt Go.RowKit Go.WideMaps Go.Joins Go.Deep Grd
section
variable {H:Type}{enc:TypeId × Value->H}{W:World}{sp:Nat->Bool}{held:Bool}
theorem pQ6 {P:Program}{e:TypeId}:∀ {l:List (DataW H)}{d:DataW H},d∈l->∀ x,x∈d.weights P e->x∈DataW.weightsAll P e l
 | y::r,d,h,x,hx=>by
  rw [DataW.weightsAll];rcases List.mem_cons.1 h with rfl|h
  ·exact List.mem_append_left _ hx
  ·exact List.mem_append_right _ (pQ6 h x hx)
theorem SQ6 {l:List Pt}{d:DataW H}{M:Nat} (hw:∀ x∈d.weights Tryz.prog 22,x<=M) (hl:l≠[]->∃ s,d=.slice (l.map (ptD H)) s):l.length<=M/\∀ p∈l,p.w.length<=M:=by
 by_cases h0:l=[]
 ·subst h0;exact⟨Cm,fun p hp=>by cases hp⟩
 ·obtain⟨s,rfl⟩:=hl h0;rw [DataW.weights,Tryz.underlying22] at hw;have hb:Tryz.prog.bytesOf 46=32:=by kernel_rfl
  constructor
  ·have:=hw _ (List.mem_cons_self ..);rw [hb,List.length_map] at this;omega
  ·intro p hp;refine hw p.w.length (List.mem_cons_of_mem _ (List.mem_append_left _ (pQ6 (List.mem_map_of_mem (f:=ptD H) hp) _ ?_)));unfold ptD;rw [DataW.weights,Tryz.underlying46];simp [DataW.weightsEach,DataW.weights]
def YQ8 (H:Type) (x:List UInt8):DataW H:=.lit (.string x)
theorem qQ9 {R:List (List UInt8)}{d:DataW H}{M:Nat} (hw:∀ x∈d.weights Tryz.prog 29,x<=M) (hl:R≠[]->∃ s,d=.slice (R.map (YQ8 H)) s):R.length<=M/\∀ x∈R,x.length<=M:=by
 by_cases h0:R=[]
 ·subst h0;exact⟨Cm,fun p hp=>by cases hp⟩
 ·obtain⟨s,rfl⟩:=hl h0;rw [DataW.weights,Tryz.underlying29] at hw;have hb:Tryz.prog.bytesOf 9=16:=by kernel_rfl
  constructor
  ·have:=hw _ (List.mem_cons_self ..);rw [hb,List.length_map] at this;omega
  ·intro x hx;refine hw x.length (List.mem_cons_of_mem _ (List.mem_append_left _ (pQ6 (List.mem_map_of_mem (f:=YQ8 H) hx) _ ?_)));simp [YQ8,DataW.weights]
theorem ZQ6 {n c:Nat}{d:DataW H}{p:List MemPlace} (h:DataW.Trod enc Tryz.prog W 0 sp held 22 (.slice none n c) d p):c=0:=by
 obtain⟨fuel,hf⟩:=h;rcases RJ Tryz.underlying22 Tryz.underlying46 Ci Ci hf with ⟨hcs,_⟩|⟨a',len',cap',m,D,Pl,hcs,_⟩
 ·simp [Value.cells] at hcs;exact hcs.2
 ·simp [Value.cells] at hcs
theorem CQ9 {r:Reach}{b0:Nat}{v:Value}{d:DataW H}{p:List MemPlace} (hv:Value.okWide Tryz.prog W r b0 29 v) (h:DataW.Trod enc Tryz.prog W 0 sp held 29 v d p) :
  ∃ (a:Option Addr) (R:List (List UInt8)) (cap:Nat),v=.slice a R.length cap/\Ck.WsO W a R/\(R≠[]->∃ s,d=.slice (R.map (YQ8 H)) s):=by
 obtain⟨a,len,cap,rfl⟩:=okWide_slice Tryz.underlying29 hv;obtain⟨fuel,hf⟩:=h;rcases open_strs Tryz.underlying29 Tryz.underlying9 Ci hf with ⟨hcs,_⟩|⟨a',len',cap',m,Sx,hcs,_,hl,_,hm,hx,hi⟩
 ·simp [Value.cells] at hcs;obtain⟨rfl,rfl,rfl⟩:=hcs;exact⟨none,[],0,rfl,.inl rfl,fun h=>absurd rfl h⟩
 ·simp [Value.cells] at hcs;obtain⟨rfl,rfl,rfl⟩:=hcs;have hml:len<=m:=by rw [hm];split <;> omega
  have hx1:d=_:=congrArg Prod.fst hx;refine⟨some a',(List.range len).map fun i=>(Sx i).data.toList,cap,Cm,?_,fun _=>⟨(List.range (m - len)).map fun j=>.lit (.string (Sx (len+j)).data.toList),by rw [hx1,List.map_map];rfl⟩⟩;by_cases h0:len=0
  ·subst h0;exact .inl rfl
  ·obtain⟨c0,_⟩:=hi 0 Cf;obtain⟨b,o,spt⟩:=a';have hs:spt=none:=by
    cases spt with
    | none=>rfl
    | some x =>
     simp only [Addr.add,World.cell?] at c0;split at c0 <;> simp at c0
   subst hs;have had:∀ n,(Addr.mk b o none).add n=⟨b,o+n,none⟩:=fun n=>by
    unfold Addr.add;split
    ·rename_i h;subst h;rfl
    ·exact Ct
   refine .inr ⟨b,o,rfl,World.block_lt_of_cell? W _ c0,fun j x hj=>?_⟩;rw [List.getElem?_map] at hj;obtain⟨i,hi2,rfl⟩:=Option.map_eq_some_iff.1 hj;have hjl:=(Ai.1 hi2).1;rw [List.length_range] at hjl;rw [List.getElem?_range hjl] at hi2;cases hi2;obtain⟨cj,_⟩:=hi j Cf;rw [had] at cj;simpa using cj
end
end
