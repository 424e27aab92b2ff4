import Derived.HandedShaped
import Derived.Lib.SmallJoins
import Derived.Test.YtjdllofmhglmiaaGreatDoorTie
import Derived.Test.YtjdllofmhglmiaaGreatDoorCards
import Derived.PinnedBridge
import Derived.Deep.DeepWitnessRowRef
import Derived.Test.YtjdllofmhglmiaaGreatDoorQAG
namespace Go.Proofs.YtjdllofmhglmiaaGreatDoor
set_option linter.all false
set_option maxHeartbeats 40000000
set_option maxRecDepth 100000
section
open Go.ChangeShapes Go.WideShapes Go.ChangeAt Go.RowKit Go.WideMaps
open Go.ChangeMaps (open_string)
section
variable {H:Type}{enc:TypeId × Value->H}{P:Program}
theorem AM (hl:laidOutB P=true) {W W':World} (hb:Below W.heap.size W W') :
  ∀ {ts:List TypeId}{vs:List Value}{ds:List (DataW H)}{ps:List MemPlace},(ts.all fun t=>P.readableRec t&&decide (t < P.types.size))=true ->
   DataW.TrodAll enc P W 0 (fun _=>true) true ts vs ds ps->(∀ x∈ps,x.block < W.heap.size)->DataW.TrodAll enc P W' 0 (fun b=>decide (b < W.heap.size)) true ts vs ds ps:=by
 intro ts
 induction ts with
 | nil =>
  intro vs ds ps _ h _;obtain⟨rfl,rfl,rfl⟩:=trodAll_nil h;exact trodAll_mk0
 | cons t ts ih =>
  intro vs ds ps ht h hlt;obtain⟨v,vs',d,ds',p,q,rfl,rfl,rfl,h1,h2⟩:=trodAll_cons h;simp only [List.all_cons,Bz,Bq] at ht;exact trodAll_cons_mk (Below.trod hl ht.1.1 ht.1.2 h1 hb (fun x hx=>hlt x (List.mem_append_left _ hx)))
   (ih (by simpa using ht.2) h2 (fun x hx=>hlt x (List.mem_append_right _ hx)))
theorem AV {f:Func}{s:ChangeSpec}{b4:TypeId}{W W':World}{args:Array Value}{ds gs:List (DataW H)}{before:List MemPlace}
  (hl:laidOutB P=true) (hread:(f.params.toList.all fun t=>P.readableRec t&&decide (t < P.types.size))=true)
  (hvars:s.vars=[]) (hrt:f.resultTypes=#[b4]) (hu:P.underlying b4=some .bool)
  (hfn:(s.fn H (ds++gs)).results=[.lit (.bool true)]/\(s.fn H (ds++gs)).args=ds/\(s.fn H (ds++gs)).vars=[])
  (hW:DataW.Whole enc P f.params.toList s.vars false W args.toList ds gs before) (hb:Below W.heap.size W W') :
  s.post enc P f false true false false W args (.bool true) W':=by
 have hlt:∀ p∈before,p.block < W.heap.size:=fun p hp=>hW.lt p hp
 have hW':=hW;obtain⟨p,q,hA,hV,he,_,_⟩:=hW';rw [hvars] at hV;obtain⟨rfl,rfl⟩:=trodVars_none hV;have he:before=p++[]:=he;rw [List.append_nil] at he;subst he;refine⟨ds,[],before,[],before,[],hW,?_,?_,?_,World.keptBut_mono (fun x hx=>⟨hx,Hm⟩) (hb.frame (·∈before)),fun h=>Do⟩
 ·rw [hfn.1,hrt];exact trodAll_mk1 (shut_bool hu true)
 ·rw [hfn.2.1];exact AM hl hb hread hA hlt
 ·rw [hfn.2.2,hvars];exact rfl
end
end
section
open Go.ChangeShapes Go.WideShapes Go.ChangeAt Go.RowKit Go.WideMaps Go.Lib
theorem own:ownKnob Tryz.prog.godebug=none:=Cw
theorem NW:laidOutB Tryz.prog=true:=Cw
def uN:List (String × DataW Unit):=[("unicode/utf8.acceptRanges",Lib.acceptData),("unicode/utf8.first",Lib.firstData)]
noncomputable def YH (os:Os):World :=
 let w0:=World.holding Tryz.prog os ⟨#[],#[],[]⟩
 let put (h:Array Obj) (g:Nat) (cs:Array Value):Array Obj:=h.modify g fun
  | .cells _ t frozen=>.cells cs t frozen
  | o=>o
 let h1:=put w0.heap 1 (Lib.firstTab.map fun z=>Value.int .u8 z).toArray
 let h2:=put h1 2 ((List.range 16).flatMap fun i=>[Value.int .u8 (Lib.accLo i),Value.int .u8 (Lib.accHi i)]).toArray
 { w0 with heap:=h2 }
theorem LU (os:Os) (args:Array Value):laidMet Tryz.prog uN ((YH os).forCall (fun _ _=>0) ⟨#[],args,[]⟩).memory :=
 (LaidIn.of_run (l:=uN) [2,1] 8 Cw Cw Cw Cw).met
theorem FW {W:World} (hL:laidMet Tryz.prog uN W) (hsh:W.ShapedOpen Tryz.prog):NC W:=by
 refine⟨utf8Tabs_of_reads Tryz.lays260 ⟨Cw,Cw,Cw,Cw,Cw,Cw,Cw⟩ (Lib.laidMet.reads hL (.tail _ (.head _))) (Lib.laidMet.reads hL (.head _)),?_⟩;obtain⟨m,hm⟩:=Tryz.laysM219.s1_3 W hsh;exact⟨m,hm⟩
end
