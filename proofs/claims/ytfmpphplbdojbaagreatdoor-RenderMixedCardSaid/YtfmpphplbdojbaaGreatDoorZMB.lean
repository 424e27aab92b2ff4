import Derived.Test.YtfmpphplbdojbaaGreatDoorZTA
import Derived.Test.YtfmpphplbdojbaaGreatDoorQBO
import Derived.Deep.Strs
import Derived.Test.YtfmpphplbdojbaaGreatDoorQBP
namespace Go.Proofs.YtfmpphplbdojbaaGreatDoor
open _root_.Go.Lib(hid)
set_option linter.all false
set_option maxHeartbeats 40000000
set_option maxRecDepth 100000
namespace Ck
open Go.RowKit
open Grd (Pt Fo tB)
open Rnd (DQ2 pQ2 AQ2)
variable {w w':World}
def ptc (p:Pt):List Value:=[.int .u8 (p.k.toNat:Int),.int .i64 p.n,.string ⟨p.w.toArray⟩]
def pcl (l:List Pt):List Value:=l.flatMap ptc
theorem Tryz.infoPt:(Tryz.prog.info? 46).map (fun i=>(i.zero,i.size,i.bytes))=some (some (.agg #[.int .u8 0,.int .i64 0,.string ⟨#[]⟩]),3,32):=Ci
theorem iQ6 {P:Prop} (hh:P:=by
 go_wp2_with fail;refine HT2.out.mono ?_;rintro e w3 ⟨rfl,hb3⟩;have HB3:=hid (dA HB2.out hb3);clear hb3;go_wp2_with fail;refine (HX.out w3 HB3.out).mono ?_;rintro e w4 ⟨rfl,hb4⟩;have HB4:=hid (dA HB3.out hb4);clear hb4;go_wp2_with fail;refine (HF.out w4 HB4.out).mono ?_;rintro e w5 ⟨rfl,hb5⟩;have HB5:=hid (dA HB4.out hb5);clear hb5;go_wp2_with fail;go_ret;exact⟨rfl,HB5.out⟩):P:=hh
end Ck
section
open Go.ChangeShapes Go.WideShapes Go.ChangeAt Go.RowKit Go.WideMaps Go.Joins Go.Deep Grd
section
variable {H:Type}{enc:TypeId × Value->H}{W:World}{sp:Nat->Bool}{held:Bool}
theorem pQ6 {P:Program}{e:TypeId}:∀ {l:List (DataW H)}{d:DataW H},d∈l->∀ x,x∈d.weights P e->x∈DataW.weightsAll P e l
 | y::r,d,h,x,hx=>by
  rw [DataW.weightsAll];rcases List.mem_cons.1 h with rfl|h
  ·exact List.mem_append_left _ hx
  ·exact List.mem_append_right _ (pQ6 h x hx)
theorem SQ6 {l:List Pt}{d:DataW H}{M:Nat} (hw:∀ x∈d.weights Tryz.prog 22,x<=M) (hl:l≠[]->∃ s,d=.slice (l.map (ptD H)) s):l.length<=M/\∀ p∈l,p.w.length<=M:=by
 by_cases h0:l=[]
 ·subst h0;exact⟨Cm,fun p hp=>by cases hp⟩
 ·obtain⟨s,rfl⟩:=hl h0;rw [DataW.weights,Tryz.underlying22] at hw;have hb:Tryz.prog.bytesOf 46=32:=by kernel_rfl
  constructor
  ·have:=hw _ (List.mem_cons_self ..);rw [hb,List.length_map] at this;omega
  ·intro p hp;refine hw p.w.length (List.mem_cons_of_mem _ (List.mem_append_left _ (pQ6 (List.mem_map_of_mem (f:=ptD H) hp) _ ?_)));unfold ptD;rw [DataW.weights,Tryz.underlying46];simp [DataW.weightsEach,DataW.weights]
def YQ8 (H:Type) (x:List UInt8):DataW H:=.lit (.string x)
theorem qQ9 {R:List (List UInt8)}{d:DataW H}{M:Nat} (hw:∀ x∈d.weights Tryz.prog 29,x<=M) (hl:R≠[]->∃ s,d=.slice (R.map (YQ8 H)) s):R.length<=M/\∀ x∈R,x.length<=M:=by
 by_cases h0:R=[]
 ·subst h0;exact⟨Cm,fun p hp=>by cases hp⟩
 ·obtain⟨s,rfl⟩:=hl h0;rw [DataW.weights,Tryz.underlying29] at hw;have hb:Tryz.prog.bytesOf 9=16:=by kernel_rfl
  constructor
  ·have:=hw _ (List.mem_cons_self ..);rw [hb,List.length_map] at this;omega
  ·intro x hx;refine hw x.length (List.mem_cons_of_mem _ (List.mem_append_left _ (pQ6 (List.mem_map_of_mem (f:=YQ8 H) hx) _ ?_)));simp [YQ8,DataW.weights]
theorem CQ9 {r:Reach}{b0:Nat}{v:Value}{d:DataW H}{p:List MemPlace} (hv:Value.okWide Tryz.prog W r b0 29 v) (h:DataW.Trod enc Tryz.prog W 0 sp held 29 v d p) :
  ∃ (a:Option Addr) (R:List (List UInt8)) (cap:Nat),v=.slice a R.length cap/\Ck.WsO W a R/\(R≠[]->∃ s,d=.slice (R.map (YQ8 H)) s):=by
 obtain⟨a,len,cap,rfl⟩:=okWide_slice Tryz.underlying29 hv;obtain⟨fuel,hf⟩:=h;rcases open_strs Tryz.underlying29 Tryz.underlying9 Ci hf with ⟨hcs,_⟩|⟨a',len',cap',m,Sx,hcs,_,hl,_,hm,hx,hi⟩
 ·simp [Value.cells] at hcs;obtain⟨rfl,rfl,rfl⟩:=hcs;exact⟨none,[],0,rfl,.inl rfl,fun h=>absurd rfl h⟩
 ·simp [Value.cells] at hcs;obtain⟨rfl,rfl,rfl⟩:=hcs;have hml:len<=m:=by rw [hm];split <;> omega
  have hx1:d=_:=congrArg Prod.fst hx;refine⟨some a',(List.range len).map fun i=>(Sx i).data.toList,cap,Cm,?_,fun _=>⟨(List.range (m - len)).map fun j=>.lit (.string (Sx (len+j)).data.toList),by rw [hx1,List.map_map];rfl⟩⟩;by_cases h0:len=0
  ·subst h0;exact .inl rfl
  ·obtain⟨c0,_⟩:=hi 0 Cf;obtain⟨b,o,spt⟩:=a';have hs:spt=none:=by
    cases spt with
    | none=>rfl
    | some x =>
     simp only [Addr.add,World.cell?] at c0;split at c0 <;> simp at c0
   subst hs;have had:∀ n,(Addr.mk b o none).add n=⟨b,o+n,none⟩:=fun n=>by
    unfold Addr.add;split
    ·rename_i h;subst h;rfl
    ·exact Ct
   refine .inr ⟨b,o,rfl,World.block_lt_of_cell? W _ c0,fun j x hj=>?_⟩;rw [List.getElem?_map] at hj;obtain⟨i,hi2,rfl⟩:=Option.map_eq_some_iff.1 hj;have hjl:=(Ai.1 hi2).1;rw [List.length_range] at hjl;rw [List.getElem?_range hjl] at hi2;cases hi2;obtain⟨cj,_⟩:=hi j Cf;rw [had] at cj;simpa using cj
end
end
