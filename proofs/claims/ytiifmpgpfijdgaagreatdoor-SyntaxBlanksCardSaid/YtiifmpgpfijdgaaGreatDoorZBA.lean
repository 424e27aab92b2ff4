import Derived.Deep.LoopGhost
import Derived.Test.YtiifmpgpfijdgaaGreatDoorQBV
import Derived.Test.YtiifmpgpfijdgaaGreatDoorQAT
import Derived.Test.YtiifmpgpfijdgaaGreatDoorRows
import Derived.WalkKit
import Derived.ProofKit
import Derived.OpenShut
import Derived.HandedShaped
import Derived.Lib.SmallJoins
import Derived.SizedLaws
import Derived.JoinedCond
import Derived.Test.YtiifmpgpfijdgaaGreatDoorTie
import Derived.Test.YtiifmpgpfijdgaaGreatDoorCards
import Derived.PinnedBridge
import Derived.Lib.LaidIn
import Derived.Lib.LaidU8
import Derived.Deep.DeepHandedRow
import Derived.Deep.DeepWitnessRowRef
import Derived.SevenTiedAt
import Derived.Test.YtiifmpgpfijdgaaGreatDoorQAH
namespace Go.Proofs.YtiifmpgpfijdgaaGreatDoor
set_option linter.all false
set_option maxHeartbeats 40000000
set_option maxRecDepth 100000
section
open Go.RowKit
variable {w:World}
def errR:ReadR→Nat × Nat|.bad e a=>(e,a)|.ok _ _=>(0,0)
def PQ (r:ReadR) (w w':World) (tv nv:Value):Prop :=
 match r with
 | .bad _ _=>tv=.slice none 0 0∧nv=.slice none 0 0
 | .ok l t=>w'.ownsRow w.heap.size 62 3 tv l.length (tokV l)∧w'.ownsRow w.heap.size 76 5 nv (nodes t).length (nd5sV (nodes t))
def TQ (s:List UInt8) (r:ReadR) (w w':World) (pv:Value):Prop :=
 match r with
 | .bad _ _=>pv=.slice none 0 0
 | .ok l t=>w'.ownsRow w.heap.size 40 3 pv (parts ⟨s,l,[]⟩ t).length (pt3sV (parts ⟨s,l,[]⟩ t))
theorem parse_any (goal:UInt8) (s:List UInt8) (w:World) (hw:Tabs w):Calls Tryz.prog 22 #[.int .u8 (goal.toNat:Int),.string ⟨s.toArray⟩] w (fun e w'=>∃ (ta na:Option Addr) (tn tc nn nc:Nat),e=.returned (.tuple #[.agg #[.slice ta tn tc,.slice na nn nc],.agg #[.int .i64 ((errR (readT nestN goal s)).1:Int),.int .i64 ((errR (readT nestN goal s)).2:Int)]])∧PQ (readT nestN goal s) w w' (.slice ta tn tc) (.slice na nn nc)∧Below w.heap.size w w'):=by
 refine (parse_walk nest_law goal s w hw).mono fun e w' h=>?_
 cases hr:readT nestN goal s with
 | bad er a=>rw [hr] at h;obtain⟨rfl,hb⟩:=h;exact⟨_,_,_,_,_,_,rfl,⟨rfl,rfl⟩,hb⟩
 | ok l t=>rw [hr] at h;obtain⟨tv,nv,rfl,h1,h2,hb⟩:=h;obtain⟨ta,tc,rfl⟩:=Grd.own_shape h1;obtain⟨na,nc,rfl⟩:=Grd.own_shape h2;exact⟨_,_,_,_,_,_,rfl,⟨h1,h2⟩,hb⟩
theorem term_any (goal:UInt8) (s:List UInt8) (w:World) (hw:Tabs w):Calls Tryz.prog 15 #[.int .u8 (goal.toNat:Int),.string ⟨s.toArray⟩] w (fun e w'=>∃ (pa:Option Addr) (pn pc:Nat),e=.returned (.tuple #[.slice pa pn pc,.agg #[.int .i64 ((errR (readT nestN goal s)).1:Int),.int .i64 ((errR (readT nestN goal s)).2:Int)]])∧TQ s (readT nestN goal s) w w' (.slice pa pn pc)∧Below w.heap.size w w'):=by
 refine (term_walk nest_law goal s w hw).mono fun e w' h=>?_
 unfold termT at h
 cases hr:readT nestN goal s with
 | bad er a=>rw [hr] at h;obtain⟨rfl,hb⟩:=h;exact⟨_,_,_,rfl,rfl,hb⟩
 | ok l t=>rw [hr] at h;obtain⟨pv,rfl,h1,hb⟩:=h;obtain⟨pa,pc,rfl⟩:=Grd.own_shape h1;exact⟨_,_,_,rfl,h1,hb⟩
theorem two_alloc (w:World) (a b:Obj):Below w.heap.size w ((w.alloc a).alloc b)∧((w.alloc a).alloc b).heap[w.heap.size]?=some a∧((w.alloc a).alloc b).heap[w.heap.size+1]?=some b∧((w.alloc a).alloc b).heap.size=w.heap.size+1+1:=by
 have h1:=heap_alloc_new w a
 have h2:=heap_alloc_new (w.alloc a) b
 rw [World.size_alloc] at h2
 have hb:=(Below.refl w.heap.size w).alloc (Nat.le_refl _) a
 have hb2:=(Below.refl (w.alloc a).heap.size (w.alloc a)).alloc (Nat.le_refl _) b
 exact⟨hb.alloc (by simp) b,(hb2.block _ (by simp)).trans h1,h2,by simp⟩
end
section
open Go.RowKit
variable {w:World}
def FixPt:List Pt3:=[⟨37,2,[43]⟩,⟨26,0,[97]⟩,⟨37,2,[42]⟩,⟨26,0,[98]⟩,⟨26,0,[99]⟩]
theorem want_at (w:World) (b:Nat) (h:w.heap[b]?=some (.cells #[.int .u8 37,.int .i64 2,.string ⟨#[43]⟩,.int .u8 26,.int .i64 0,.string ⟨#[97]⟩,.int .u8 37,.int .i64 2,.string ⟨#[42]⟩,.int .u8 26,.int .i64 0,.string ⟨#[98]⟩,.int .u8 26,.int .i64 0,.string ⟨#[99]⟩] 40 (0,0))):Grd.PartsAt w (some ⟨b,0,none⟩) (FixPt.map ptG):=by
 refine .inr ⟨b,0,rfl,lt_of_block' h,fun j p hj=>?_⟩
 have hl:j < 5:=(List.getElem?_eq_some_iff.1 hj).1
 have hc:j=0∨j=1∨j=2∨j=3∨j=4:=by omega
 unfold World.cell?
 rw [h]
 rcases hc with rfl|rfl|rfl|rfl|rfl <;> (cases hj;exact⟨rfl,rfl,rfl⟩)
theorem fixed_walk (hT:Tabs w):Calls Tryz.prog 12 #[] w (fun e w'=>e=.returned (.bool true)∧Below w.heap.size w w'):=by
 have H1:∀ w,Tabs w→Calls Tryz.prog 15 #[.int .u8 2,.string ⟨#[97,43,98,42,99]⟩] w (TermAns (.ok FixPt) w):=fun w h=>by
  have h1:=term_walk nest_law 2 [97,43,98,42,99] w h
  rw [show termT nestN 2 [97,43,98,42,99]=_ from fix1] at h1
  exact h1
 have H2:∀ w,Tabs w→Calls Tryz.prog 22 #[.int .u8 3,.string ⟨#[97,32,98]⟩] w (ParseAns (.bad 7 2) w):=fun w h=>by
  have h1:=parse_walk nest_law 3 [97,32,98] w h
  rw [show readT nestN 3 [97,32,98]=_ from fix2] at h1
  exact h1
 obtain⟨L3,f3,f3l,f3k,f3w⟩:=fix3
 have H3:∀ w,Tabs w→Calls Tryz.prog 15 #[.int .u8 3,.string ⟨#[105,102,32,120,32,123,125]⟩] w (TermAns (.ok L3) w):=fun w h=>by
  have h1:=term_walk nest_law 3 [105,102,32,120,32,123,125] w h
  rw [show termT nestN 3 [105,102,32,120,32,123,125]=_ from f3] at h1
  exact h1
 clear f3
 have HT:=Lib.hid hT
 have HH1:=Lib.hid H1
 have HH2:=Lib.hid H2
 have HH3:=Lib.hid H3
 have HF3:=Lib.hid (And.intro f3l (And.intro f3k f3w))
 clear hT H1 H2 H3 f3l f3k f3w
 go_enter Tryz.func12,Tryz.ntmps12
 go_upto_region 1 with fail
 go_wp2_with (go_at_call 15;refine (HH1.out _ HT.out).mono ?_;rintro e w1 ⟨pv1,rfl,hr1,hb1⟩;obtain⟨a1,c1,rfl⟩:=Grd.own_shape hr1;unfold faultV;have HR1:=Lib.hid (And.intro hr1 hb1);clear hr1 hb1)
 have h2:=heap_alloc_new w1 (Obj.cells #[.int .i64 0,.int .i64 0] 28)
 have hBA:=Lib.hid (HR1.out.2.alloc HR1.out.2.size (Obj.cells #[.int .i64 0,.int .i64 0] 28))
 have HRA:=Lib.hid (HR1.out.1.alloc (Obj.cells #[.int .i64 0,.int .i64 0] 28))
 have hsA:w1.heap.size < (w1.alloc (Obj.cells #[.int .i64 0,.int .i64 0] 28)).heap.size:=by simp
 generalize w1.alloc (Obj.cells #[.int .i64 0,.int .i64 0] 28)=wA at *
 refine (HH2.out _ (HT.out.below hBA.out)).mono ?_
 rintro e w2 ⟨rfl,hb2⟩
 unfold faultV
 go_upto_region 3 with fail
 have h3:=heap_alloc_new w2 (Obj.cells #[.slice none 0 0,.slice none 0 0] 45)
 have h4:=heap_alloc_new (w2.alloc (Obj.cells #[.slice none 0 0,.slice none 0 0] 45)) (Obj.cells #[.int .i64 7,.int .i64 2] 28)
 have hbB:=hb2.trans (((Below.refl w2.heap.size w2).alloc (Nat.le_refl _) (Obj.cells #[.slice none 0 0,.slice none 0 0] 45)).alloc (by simp) (Obj.cells #[.int .i64 7,.int .i64 2] 28) |>.mono hb2.size)
 rw [World.size_alloc] at h4
 have h2B:=(hbB.block _ hsA).trans h2
 have hBB:=Lib.hid (bthen hBA.out hbB)
 have HRB:=Lib.hid (own_fr HRA.out (Fr.below (X:=[]) hbB) (by simp))
 have hsB:((w2.alloc (Obj.cells #[.slice none 0 0,.slice none 0 0] 45)).alloc (Obj.cells #[.int .i64 7,.int .i64 2] 28)).heap.size=w2.heap.size+1+1:=by simp
 have hle:=hb2.size
 clear h2 h3 hbB hb2
 generalize (w2.alloc (Obj.cells #[.slice none 0 0,.slice none 0 0] 45)).alloc (Obj.cells #[.int .i64 7,.int .i64 2] 28)=wB at *
 go_upto_region 4 with (go_at_call 15;refine (HH3.out _ (HT.out.below hBB.out)).mono ?_;rintro e w3 ⟨pv3,rfl,hr3,hb3⟩;obtain⟨a3,c3,rfl⟩:=Grd.own_shape hr3;unfold faultV;have HR3:=Lib.hid hr3;have HB3:=Lib.hid hb3;clear hr3 hb3)
 have h6:=heap_alloc_new w3 (Obj.cells #[.int .i64 0,.int .i64 0] 28)
 have hb6:=(Below.refl w3.heap.size w3).alloc (Nat.le_refl _) (Obj.cells #[.int .i64 0,.int .i64 0] 28)
 have hs6:(w3.alloc (Obj.cells #[.int .i64 0,.int .i64 0] 28)).heap.size=w3.heap.size+1:=by simp
 have hB6:=HB3.out.trans (hb6.mono HB3.out.size)
 have hR3:=own_fr HR3.out (Fr.below (X:=[]) hb6) (by simp)
 have h2C:=(hB6.block _ (by omega)).trans h2B
 have h4C:=(hB6.block _ (by omega)).trans h4
 have hBC:=Lib.hid (bthen hBB.out hB6)
 have HRC:=Lib.hid (own_fr HRB.out (Fr.below (X:=[]) hB6) (by simp))
 have hle3:=HB3.out.size
 clear hb6 hB6 HB3 HR3 h2B h4
 generalize w3.alloc (Obj.cells #[.int .i64 0,.int .i64 0] 28)=wC at *
 obtain⟨OW,hOW⟩:∃ OW,OW=(Obj.cells #[.int .u8 37,.int .i64 2,.string ⟨#[43]⟩,.int .u8 26,.int .i64 0,.string ⟨#[97]⟩,.int .u8 37,.int .i64 2,.string ⟨#[42]⟩,.int .u8 26,.int .i64 0,.string ⟨#[98]⟩,.int .u8 26,.int .i64 0,.string ⟨#[99]⟩] 40 (0,0)):=⟨_,rfl⟩
 have h8:=heap_alloc_new wC OW
 have hb8:=(Below.refl wC.heap.size wC).alloc (Nat.le_refl _) OW
 have h2D:=(hb8.block _ (by omega)).trans h2C
 have h4D:=(hb8.block _ (by omega)).trans h4C
 have h6D:=(hb8.block _ (by omega)).trans h6
 have hR3D:=own_fr hR3 (Fr.below (X:=[]) hb8) (by simp)
 have hRD:=own_fr HRC.out (Fr.below (X:=[]) hb8) (by simp)
 have hBD:=bthen hBC.out hb8
 rw [hOW] at h2D h4D h6D h8 hR3D hRD hBD
 clear h2C h4C h6 hb8 hR3 hOW
 rw [hs6] at h8
 go_upto_region 5 with fail
 generalize wC.alloc _=wD at *
 obtain⟨g1,g2,_,_⟩:=two_cells h2D
 obtain⟨g3,g4,_,_⟩:=two_cells h4D
 obtain⟨g5,g6,_,_⟩:=two_cells h6D
 have hS:=same_walk (w:=wD) a1 (some ⟨w3.heap.size+1,0,none⟩) c1 5 (FixPt.map ptG) (by decide) (parts_at hRD rfl) (want_at wD _ h8)
 have HS:Hid (Calls Tryz.prog 17 #[.slice a1 FixPt.length c1,.slice (some ⟨w3.heap.size+1,0,none⟩) 5 5] wD fun e w'=>e=.returned (.bool true)∧Below wD.heap.size wD w'):=Lib.hid hS
 obtain⟨f3l,f3k,f3w⟩:=HF3.out
 have hP3:=parts_at hR3D rfl
 rcases hP3 with h0|⟨b,off,rfl,hlt,hc⟩
 ·have:=congrArg List.length h0
  rw [List.length_map,f3l] at this
  cases this
 have e1:∃ x,L3[1]?=some x∧x.kind=59:=by
  cases h:L3[1]? with
  | none=>rw [h] at f3k;cases f3k
  | some x=>rw [h] at f3k;exact⟨x,rfl,Option.some.inj f3k⟩
 have e3:∃ x,L3[3]?=some x∧x.word=[120]:=by
  cases h:L3[3]? with
  | none=>rw [h] at f3w;cases f3w
  | some x=>rw [h] at f3w;exact⟨x,rfl,Option.some.inj f3w⟩
 obtain⟨x1,e1,k1⟩:=e1
 obtain⟨x3,e3,k3⟩:=e3
 have m1:=(hc 1 (ptG x1) (by rw [List.getElem?_map,e1];rfl)).1
 have m3:=(hc 3 (ptG x3) (by rw [List.getElem?_map,e3];rfl)).2.2
 rw [show ((ptG x1).k.toNat:Int)=59 by show ((x1.kind.toNat:Nat):Int)=59;rw [k1];rfl,show off+1*3=off+3 by omega] at m1
 rw [show (ptG x3).w=[120] from k3,show off+3*3+2=off+11 by omega] at m3
 clear e1 k1 e3 k3 hc f3k f3w HF3 h2D h4D h6D h8 hS hR3D hRD hlt
 have HBD:=Lib.hid hBD
 clear hBD
 rw [f3l]
 go_wp2_with (go_at_call 17;refine HS.out.mono ?_;rintro e w9 ⟨rfl,hb9⟩;have q3:=keepCell hb9 g3;have q4:=keepCell hb9 g4;have q5:=keepCell hb9 g5;have q6:=keepCell hb9 g6;have q1:=keepCell hb9 m1;have q2:=keepCell hb9 m3;have HB9:=Lib.hid (bthen HBD.out hb9);clear hb9 g1 g2 g3 g4 g5 g6 m1 m3)
 go_ret
 exact⟨rfl,HB9.out⟩
end
section
open Go.RowKit
variable {w:World}
theorem goal_walk (n:UInt8):Calls Tryz.prog 18 #[.int .u8 (n.toNat:Int)] w (fun e w'=>e=.returned (.int .u8 ((goalB n).toNat:Int))∧w'=w):=by
 have hn:=n.toNat_lt
 rw [goalB_nat]
 go_enter Tryz.func18,Tryz.ntmps18
 go_wp2_with fail
 go_ret
 exact⟨by congr 2,rfl⟩
end
section
open Go.ChangeShapes Go.WideShapes Go.ChangeAt Go.RowKit Go.WideMaps
open Go.ChangeMaps (open_string)
section
variable {H:Type}{enc:TypeId × Value→H}{P:Program}
theorem trodAll_below (hl:laidOutB P=true) {W W':World} (hb:Below W.heap.size W W') :
  ∀ {ts:List TypeId}{vs:List Value}{ds:List (DataW H)}{ps:List MemPlace},(ts.all fun t=>P.readableRec t&&decide (t < P.types.size))=true →
   DataW.TrodAll enc P W 0 (fun _=>true) true ts vs ds ps→(∀ x∈ps,x.block < W.heap.size)→DataW.TrodAll enc P W' 0 (fun b=>decide (b < W.heap.size)) true ts vs ds ps:=by
 intro ts
 induction ts with
 | nil =>
  intro vs ds ps _ h _
  obtain⟨rfl,rfl,rfl⟩:=trodAll_nil h
  exact trodAll_mk0
 | cons t ts ih =>
  intro vs ds ps ht h hlt
  obtain⟨v,vs',d,ds',p,q,rfl,rfl,rfl,h1,h2⟩:=trodAll_cons h
  simp only [List.all_cons,Bool.and_eq_true,decide_eq_true_eq] at ht
  exact trodAll_cons_mk (Below.trod hl ht.1.1 ht.1.2 h1 hb (fun x hx=>hlt x (List.mem_append_left _ hx)))
   (ih (by simpa using ht.2) h2 (fun x hx=>hlt x (List.mem_append_right _ hx)))
theorem law_post {f:Func}{s:ChangeSpec}{b4:TypeId}{W W':World}{args:Array Value}{ds gs:List (DataW H)}{before:List MemPlace}
  (hl:laidOutB P=true) (hread:(f.params.toList.all fun t=>P.readableRec t&&decide (t < P.types.size))=true)
  (hvars:s.vars=[]) (hrt:f.resultTypes=#[b4]) (hu:P.underlying b4=some .bool)
  (hfn:(s.fn H (ds++gs)).results=[.lit (.bool true)]∧(s.fn H (ds++gs)).args=ds∧(s.fn H (ds++gs)).vars=[])
  (hW:DataW.Whole enc P f.params.toList s.vars false W args.toList ds gs before) (hb:Below W.heap.size W W') :
  s.post enc P f false true false false W args (.bool true) W':=by
 have hlt:∀ p∈before,p.block < W.heap.size:=fun p hp=>hW.lt p hp
 have hW':=hW
 obtain⟨p,q,hA,hV,he,_,_⟩:=hW'
 rw [hvars] at hV
 obtain⟨rfl,rfl⟩:=trodVars_none hV
 have he:before=p++[]:=he
 rw [List.append_nil] at he
 subst he
 refine⟨ds,[],before,[],before,[],hW,?_,?_,?_,World.keptBut_mono (fun x hx=>⟨hx,by simpa using hx⟩) (hb.frame (·∈before)),fun h=>by cases h⟩
 ·rw [hfn.1,hrt];exact trodAll_mk1 (shut_bool hu true)
 ·rw [hfn.2.1];exact trodAll_below hl hb hread hA hlt
 ·rw [hfn.2.2,hvars];exact rfl
end
end
section
open Go.ChangeShapes Go.WideShapes Go.ChangeAt Go.RowKit Go.WideMaps Go.Lib
theorem own:ownKnob Tryz.prog.godebug=none:=by kernel_rfl
theorem laidOut:laidOutB Tryz.prog=true:=by kernel_rfl
def laidL:List (String × DataW Unit):=[("unicode/utf8.acceptRanges",Lib.acceptData),("unicode/utf8.first",Lib.firstData)]
noncomputable def laidWorld (os:Os):World :=
 let w0:=World.holding Tryz.prog os ⟨#[],#[],[]⟩
 let put (h:Array Obj) (g:Nat) (cs:Array Value):Array Obj:=h.modify g fun
  | .cells _ t frozen=>.cells cs t frozen
  | o=>o
 let h1:=put w0.heap 1 (Lib.firstTab.map fun z=>Value.int .u8 z).toArray
 let h2:=put h1 2 ((List.range 16).flatMap fun i=>[Value.int .u8 (Lib.accLo i),Value.int .u8 (Lib.accHi i)]).toArray
 { w0 with heap:=h2 }
theorem laid_met (os:Os) (args:Array Value):laidMet Tryz.prog laidL ((laidWorld os).forCall (fun _ _=>0) ⟨#[],args,[]⟩).memory :=
 (LaidIn.of_run (l:=laidL) [2,1] 8 (by kernel_rfl) (by kernel_rfl) (by kernel_rfl) (by kernel_rfl)).met
theorem tabs_of {W:World} (hL:laidMet Tryz.prog laidL W) (hsh:W.ShapedOpen Tryz.prog):Tabs W:=by
 refine⟨utf8Tabs_of_reads Tryz.lays260 ⟨by kernel_rfl,by kernel_rfl,by kernel_rfl,by kernel_rfl,by kernel_rfl,by kernel_rfl,by kernel_rfl⟩ (Lib.laidMet.reads hL (.tail _ (.head _))) (Lib.laidMet.reads hL (.head _)),?_⟩
 obtain⟨m,hm⟩:=Tryz.laysM219.s1_3 W hsh
 exact⟨m,hm⟩
end
end Go.Proofs.YtiifmpgpfijdgaaGreatDoor
