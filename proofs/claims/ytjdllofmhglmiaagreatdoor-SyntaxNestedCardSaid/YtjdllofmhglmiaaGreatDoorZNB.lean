import Derived.HandedShaped
import Derived.Lib.SmallJoins
import Derived.Test.YtjdllofmhglmiaaGreatDoorTie
import Derived.Test.YtjdllofmhglmiaaGreatDoorCards
import Derived.PinnedBridge
import Derived.Deep.DeepWitnessRowRef
import Derived.Test.YtjdllofmhglmiaaGreatDoorZNA
namespace Go.Proofs.YtjdllofmhglmiaaGreatDoor
set_option linter.all false
set_option maxHeartbeats 40000000
set_option maxRecDepth 100000
section
open Go.ChangeShapes Go.WideShapes Go.ChangeAt Go.RowKit Go.WideMaps
open Go.ChangeMaps (open_string)
section
variable {H:Type}{enc:TypeId × Value->H}{P:Program}
theorem AM (hl:laidOutB P=true) {W W':World} (hb:Below W.heap.size W W') :
  ∀ {ts:List TypeId}{vs:List Value}{ds:List (DataW H)}{ps:List MemPlace},(ts.all fun t=>P.readableRec t&&decide (t < P.types.size))=true ->
   DataW.TrodAll enc P W 0 (fun _=>true) true ts vs ds ps->(∀ x∈ps,x.block < W.heap.size)->DataW.TrodAll enc P W' 0 (fun b=>decide (b < W.heap.size)) true ts vs ds ps:=by
 intro ts
 induction ts with
 | nil =>
  intro vs ds ps _ h _;obtain⟨rfl,rfl,rfl⟩:=trodAll_nil h;exact trodAll_mk0
 | cons t ts ih =>
  intro vs ds ps ht h hlt;obtain⟨v,vs',d,ds',p,q,rfl,rfl,rfl,h1,h2⟩:=trodAll_cons h;simp only [List.all_cons,Bz,Bq] at ht;exact trodAll_cons_mk (Below.trod hl ht.1.1 ht.1.2 h1 hb (fun x hx=>hlt x (List.mem_append_left _ hx)))
   (ih (by simpa using ht.2) h2 (fun x hx=>hlt x (List.mem_append_right _ hx)))
theorem AV {f:Func}{s:ChangeSpec}{b4:TypeId}{W W':World}{args:Array Value}{ds gs:List (DataW H)}{before:List MemPlace}
  (hl:laidOutB P=true) (hread:(f.params.toList.all fun t=>P.readableRec t&&decide (t < P.types.size))=true)
  (hvars:s.vars=[]) (hrt:f.resultTypes=#[b4]) (hu:P.underlying b4=some .bool)
  (hfn:(s.fn H (ds++gs)).results=[.lit (.bool true)]/\(s.fn H (ds++gs)).args=ds/\(s.fn H (ds++gs)).vars=[])
  (hW:DataW.Whole enc P f.params.toList s.vars false W args.toList ds gs before) (hb:Below W.heap.size W W') :
  s.post enc P f false true false false W args (.bool true) W':=by
 have hlt:∀ p∈before,p.block < W.heap.size:=fun p hp=>hW.lt p hp
 have hW':=hW;obtain⟨p,q,hA,hV,he,_,_⟩:=hW';rw [hvars] at hV;obtain⟨rfl,rfl⟩:=trodVars_none hV;have he:before=p++[]:=he;rw [List.append_nil] at he;subst he;refine⟨ds,[],before,[],before,[],hW,?_,?_,?_,World.keptBut_mono (fun x hx=>⟨hx,Hm⟩) (hb.frame (·∈before)),fun h=>Do⟩
 ·rw [hfn.1,hrt];exact trodAll_mk1 (shut_bool hu true)
 ·rw [hfn.2.1];exact AM hl hb hread hA hlt
 ·rw [hfn.2.2,hvars];exact rfl
end
end
section
open Go.ChangeShapes Go.WideShapes Go.ChangeAt Go.RowKit Go.WideMaps Go.Lib
theorem own:ownKnob Tryz.prog.godebug=none:=Cw
theorem NW:laidOutB Tryz.prog=true:=Cw
def uN:List (String × DataW Unit):=[("unicode/utf8.acceptRanges",Lib.acceptData),("unicode/utf8.first",Lib.firstData)]
noncomputable def YH (os:Os):World :=
 let w0:=World.holding Tryz.prog os ⟨#[],#[],[]⟩
 let put (h:Array Obj) (g:Nat) (cs:Array Value):Array Obj:=h.modify g fun
  | .cells _ t frozen=>.cells cs t frozen
  | o=>o
 let h1:=put w0.heap 1 (Lib.firstTab.map fun z=>Value.int .u8 z).toArray
 let h2:=put h1 2 ((List.range 16).flatMap fun i=>[Value.int .u8 (Lib.accLo i),Value.int .u8 (Lib.accHi i)]).toArray
 { w0 with heap:=h2 }
theorem LU (os:Os) (args:Array Value):laidMet Tryz.prog uN ((YH os).forCall (fun _ _=>0) ⟨#[],args,[]⟩).memory :=
 (LaidIn.of_run (l:=uN) [2,1] 8 Cw Cw Cw Cw).met
theorem FW {W:World} (hL:laidMet Tryz.prog uN W) (hsh:W.ShapedOpen Tryz.prog):NC W:=by
 refine⟨utf8Tabs_of_reads Tryz.lays260 ⟨Cw,Cw,Cw,Cw,Cw,Cw,Cw⟩ (Lib.laidMet.reads hL (.tail _ (.head _))) (Lib.laidMet.reads hL (.head _)),?_⟩;obtain⟨m,hm⟩:=Tryz.laysM219.s1_3 W hsh;exact⟨m,hm⟩
end
section
open Go.ChangeShapes Go.WideShapes Go.ChangeAt Go.RowKit Go.WideMaps Go.Lib
theorem LS {α:Type} (P:Nat->α->Prop):∀ n:Nat,(∀ i,i < n->∃ p,P i p)->∃ l:List α,l.length=n/\∀ i p,l[i]?=some p->P i p
 | 0,_=>⟨[],rfl,fun i p h=>Dd⟩
 | n+1,h=>by
  obtain⟨l,hl,hp⟩:=LS P n (fun i hi=>h i Cs);obtain⟨q,hq⟩:=h n Cs;refine⟨l++[q],by simp [hl],fun i p hi=>?_⟩;by_cases hin:i < l.length
  ·rw [List.getElem?_append_left hin] at hi;exact hp i p hi
  ·rw [Ax Cs] at hi;have h0:i - l.length=0:=by
    rcases Nat.eq_zero_or_pos (i - l.length) with e|e
    ·exact e
    ·rw [As Cv] at hi;cases hi
   rw [h0] at hi;have h1:i=n:=Cs
   cases hi;rw [h1];exact hq
section
variable {H:Type}{enc:TypeId × Value->H}{W:World}{sp:Nat->Bool}{held:Bool}
theorem KZ1 {r:Reach}{b0:Nat}{v:Value}{d:DataW H}{p:List MemPlace} (hv:Value.okWide Tryz.prog W r b0 32 v) (h:DataW.Trod enc Tryz.prog W 0 sp held 32 v d p) :
  ∃ (a:Option Addr) (l:List UInt8) (cap:Nat),v=.slice a l.length cap/\l.length<=cap/\Rf.BytesAt W a l:=by
 obtain⟨a,len,cap,rfl⟩:=okWide_slice Tryz.underlying32 hv;obtain⟨fuel,hf⟩:=h;rcases Deep.open_slice1 Tryz.underlying32 Cw hf with ⟨hcs,_⟩|⟨a',len',cap',m,n,V,D,Pl,hcs,_,hl,_,hm,hx,hi⟩
 ·simp [Value.cells] at hcs;obtain⟨rfl,rfl,rfl⟩:=hcs;exact⟨none,[],0,rfl,C' _,.inl rfl⟩
 ·simp [Value.cells] at hcs;obtain⟨rfl,rfl,rfl⟩:=hcs;have hml:len<=m:=by rw [hm];split <;> omega
  obtain⟨l,hll,hlp⟩:=LS (fun i (q:UInt8)=>W.cell? (a'.add i)=some (.int .u8 (q.toNat:Int))) len (fun i hil=>by
   obtain⟨c0,t0⟩:=hi i Cs;obtain⟨k,hk,_,wk⟩:=DataW.trod_int Tryz.underlying5 t0;simp only [List.cons.injEq,and_true] at hk;have hr:0<=k/\k < 256:=by
    have h:(decide (IntKind.u8.min<=k)&&decide (k<=IntKind.u8.max))=true:=wk;rw [show IntKind.u8.min=0 by rfl,show IntKind.u8.max=255 by rfl] at h;simp only [Bz,Bq] at h;omega
   obtain⟨k,rfl⟩:=Ad hr.1;have e0:((UInt8.ofNat k).toNat:Int)=(k:Int):=by
    have:k < 256:=Cs
    simp [UInt8.toNat_ofNat',Nat.mod_eq_of_lt this]
   exact⟨UInt8.ofNat k,by rw [c0,hk,e0]⟩)
  subst hll;refine⟨some a',l,cap,rfl,hl,?_⟩;by_cases h0:l=[]
  ·exact .inl h0
  ·have hpos:0 < l.length:=List.length_pos_iff.2 h0;have c0:=hlp 0 l[0] (O' hpos);have ha:a'.add 0=a':=by simp [Addr.add]
   rw [ha] at c0;obtain⟨b,o,spt⟩:=a';have hs:spt=none:=by
    cases spt with
    | none=>rfl
    | some x =>
     simp only [World.cell?] at c0;split at c0 <;> simp at c0
   subst hs;refine .inr ⟨b,o,rfl,World.block_lt_of_cell? W _ c0,fun j q hj=>?_⟩;have g0:=hlp j q hj;have had:∀ n,(Addr.mk b o none).add n=⟨b,o+n,none⟩:=fun n=>by
    unfold Addr.add;split
    ·rename_i h;subst h;rfl
    ·rfl
   rw [had] at g0;exact g0
end
end
