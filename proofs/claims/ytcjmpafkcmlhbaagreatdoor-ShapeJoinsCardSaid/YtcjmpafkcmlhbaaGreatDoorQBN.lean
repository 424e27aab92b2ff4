import Derived.WalkMore
import Derived.Test.YtcjmpafkcmlhbaaGreatDoorQAG
import Derived.Test.YtcjmpafkcmlhbaaGreatDoorQBL
import Derived.Deep.LoopGhost
import Derived.Test.YtcjmpafkcmlhbaaGreatDoorQBM
import Derived.Test.YtcjmpafkcmlhbaaGreatDoorRows
import Derived.WalkKit
import Derived.ProofKit
import Derived.OpenShut
import Derived.HandedShaped
import Derived.Lib.SmallJoins
import Derived.SizedLaws
import Derived.JoinedCond
import Derived.Test.YtcjmpafkcmlhbaaGreatDoorTie
import Derived.Test.YtcjmpafkcmlhbaaGreatDoorCards
import Derived.PinnedBridge
import Derived.Lib.LaidIn
import Derived.Lib.LaidU8
import Derived.Deep.DeepHandedRow
import Derived.Deep.DeepWitnessRowRef
import Derived.SevenTiedAt
import Derived.Test.YtcjmpafkcmlhbaaGreatDoorQAH
namespace Go.Proofs.YtcjmpafkcmlhbaaGreatDoor
set_option linter.all false
set_option maxHeartbeats 40000000
set_option maxRecDepth 100000
section
open Go.RowKit
variable {w:World}
theorem mD {b:Nat}{w w':World}{p:Addr}{v:Value} (hb:Below b w w') (hp:p.block < b) (h:w.cell? p=some v):w'.cell? p=some v:=by rw [hb.cell hp];exact h
theorem jX (x o y u c1 c2:Nat) (a:List Grd.Pt) (hl:a.length≤1099511627776) (hx:x < w.heap.size) (hy:y < w.heap.size)
  (ha:∀ j p,a[j]?=some p→w.cell? ⟨x,o+j*3,none⟩=some (.int .u8 (p.k.toNat:Int))∧w.cell? ⟨x,o+j*3+1,none⟩=some (.int .i64 p.n)∧w.cell? ⟨x,o+j*3+2,none⟩=some (.string ⟨p.w.toArray⟩))
  (hb:∀ j p,a[j]?=some p→w.cell? ⟨y,u+j*3,none⟩=some (.int .u8 (p.k.toNat:Int))∧w.cell? ⟨y,u+j*3+1,none⟩=some (.int .i64 p.n)∧w.cell? ⟨y,u+j*3+2,none⟩=some (.string ⟨p.w.toArray⟩)) :
  Calls Tryz.prog 12 #[.slice (some ⟨x,o,none⟩) a.length c1,.slice (some ⟨y,u,none⟩) a.length c2] w fun e w'=>e=.returned (.bool true)∧Below w.heap.size w w':=by
 have HA:=Lib.hid (And.intro ha hb);clear ha hb;go_enter Tryz.func12,Tryz.ntmps12;go_wp2_with fail
 go_loopw [5] (fun v w'=>∃ i:Nat,v=.int .i64 (i:Int)∧i≤a.length∧Below w.heap.size w w') (fun v _=>((a.length:Int) - intOf v).toNat)
 case atStart=>exact⟨0,rfl,by omega,Below.refl _ _⟩
 case round =>
  obtain⟨i,rfl,hi,hbel⟩:=hrel;by_cases hlt:i < a.length
  ·obtain⟨p0,p1,p2⟩:=HA.out.1 i a[i] (List.getElem?_eq_getElem hlt);obtain⟨q0,q1,q2⟩:=HA.out.2 i a[i] (List.getElem?_eq_getElem hlt);have p0:=mD hbel hx p0;have p1:=mD hbel hx p1;have p2:=mD hbel hx p2;have q0:=mD hbel hy q0;have q1:=mD hbel hy q1;have q2:=mD hbel hy q2;generalize a[i]=p at *;have i0:(0:Int)≤(i:Int):=by omega
   have i1:(i:Int) < (a.length:Int):=by omega
   obtain⟨k1,n1,s1⟩:=p;simp only [] at p0 p1 p2 q0 q1 q2;go_wp2_with fail
   go_region_held3 (fun w'=>w'.cell? ⟨x,o+i*3,none⟩=some (.int .u8 (k1.toNat:Int))∧w'.cell? ⟨x,o+i*3+1,none⟩=some (.int .i64 n1)∧w'.cell? ⟨x,o+i*3+2,none⟩=some (.string ⟨s1.toArray⟩)∧w'.cell? ⟨y,u+i*3,none⟩=some (.int .u8 (k1.toNat:Int))∧w'.cell? ⟨y,u+i*3+1,none⟩=some (.int .i64 n1)∧w'.cell? ⟨y,u+i*3+2,none⟩=some (.string ⟨s1.toArray⟩)) (go_keep) (first|fail)
   go_wp2_with fail;go_roundw
   case rel=>exact⟨i+1,by go_num,by omega,hbel.drew⟩
   case measure=>simp only [intOf];first|omega|(go_num;omega)|go_num
  ·have:i=a.length:=by omega
   subst this;go_wp2_with fail;go_ret;exact⟨rfl,hbel⟩
theorem EY (xa ya:Option Addr) (c1 c2:Nat) (a:List Grd.Pt) (hl:a.length≤1099511627776) (ha:Grd.tB w xa a) (hb:Grd.tB w ya a) :
  Calls Tryz.prog 12 #[.slice xa a.length c1,.slice ya a.length c2] w fun e w'=>e=.returned (.bool true)∧Below w.heap.size w w':=by
 rcases ha with h|⟨b,off,rfl,hlt,hc⟩
 ·subst h;go_enter Tryz.func12,Tryz.ntmps12;go_wp2_with fail;refine wp_loop_rounds 1 ?_;rw [rounds_succ];go_wp2_with fail;go_ret;exact⟨rfl,Below.refl _ _⟩
 ·rcases hb with h|⟨b2,off2,rfl,hlt2,hc2⟩
  ·subst h;go_enter Tryz.func12,Tryz.ntmps12;go_wp2_with fail;refine wp_loop_rounds 1 ?_;rw [rounds_succ];go_wp2_with fail;go_ret;exact⟨rfl,Below.refl _ _⟩
  ·exact jX b off b2 off2 c1 c2 a hl hlt hlt2 hc hc2
def NX (n:UInt8):UInt8:=1+n % 4
theorem GY (n:UInt8):((NX n).toNat:Int)=1+(n.toNat:Int) % 4:=by
 unfold NX;rw [UInt8.toNat_add,UInt8.toNat_mod];rw [show (1:UInt8).toNat=1 from rfl,show (4:UInt8).toNat=4 from rfl];omega
end
section
def zI (l:List Pt3):List Int:=l.map fun p=>(p.kids:Int)
theorem WN (a b:List Pt3):zI (a++b)=zI a++zI b:=List.map_append ..
mutual
theorem XM (E:Env):∀ (t:Tr) (r:List Int) (i:Nat) (o st:List Nat),Grd.VB r (i+cnt t)=some (o,st)→∃ o',Grd.VB (zI (parts E t)++r) i=some (o',i::st)
 | .mk k wd f t ks,r,i,o,st,h=>by
  obtain⟨o',st',h1,h2⟩:=eL E ks r (i+1) o st (by rw [show i+1+EB ks=i+cnt (.mk k wd f t ks) by simp only [cnt];omega];exact h);have e0:zI (parts E (.mk k wd f t ks))=(ks.length:Int)::zI (kC E ks):=by rw [parts];rfl
  rw [e0,List.cons_append,Grd.VB,h1];simp only [];have e:(st'++st).drop ((ks.length:Int)).toNat=st:=by rw [Int.toNat_natCast,← h2,List.drop_left]
  rw [if_pos ⟨by omega,by rw [List.length_append];omega⟩,e];exact⟨_,rfl⟩
theorem eL (E:Env):∀ (ts:List Tr) (r:List Int) (i:Nat) (o st:List Nat),Grd.VB r (i+EB ts)=some (o,st)→∃ o' st',Grd.VB (zI (kC E ts)++r) i=some (o',st'++st)∧st'.length=ts.length
 | [],r,i,o,st,h=>⟨o,[],h,rfl⟩
 | t::ts,r,i,o,st,h=>by
  obtain⟨o1,st1,h1,h2⟩:=eL E ts r (i+cnt t) o st (by rw [Nat.add_assoc];exact h);obtain⟨o2,h3⟩:=XM E t (zI (kC E ts)++r) i o1 (st1++st) h1;refine⟨o2,i::st1,?_,by simp [h2]⟩;rw [kC,WN,List.append_assoc];exact h3
end
theorem VR (E:Env) (t:Tr):Grd.DG (zI (parts E t))=true:=by
 obtain⟨o,h⟩:=XM E t [] 0 [] [] rfl;rw [List.append_nil] at h;unfold Grd.DG;rw [h]
 rfl
end
section
open Go.RowKit
variable {w:World}
def US:qK→Nat × Nat|.bad e a=>(e,a)|.ok _ _=>(0,0)
def TQ (s:List UInt8) (r:qK) (w w':World) (pv:Value):Prop :=
 match r with
 | .bad _ _=>pv=.slice none 0 0
 | .ok l t=>w'.ownsRow w.heap.size 39 3 pv (parts ⟨s,l,[]⟩ t).length (CF (parts ⟨s,l,[]⟩ t))
theorem nV (goal:UInt8) (s:List UInt8) (w:World) (hw:NC w):Calls Tryz.prog 9 #[.int .u8 (goal.toNat:Int),.string ⟨s.toArray⟩] w (fun e w'=>∃ (pa:Option Addr) (pn pc:Nat),e=.returned (.tuple #[.slice pa pn pc,.agg #[.int .i64 ((US (tD kE goal s)).1:Int),.int .i64 ((US (tD kE goal s)).2:Int)]])∧TQ s (tD kE goal s) w w' (.slice pa pn pc)∧Below w.heap.size w w'):=by
 refine (TS gM goal s w hw).mono fun e w' h=>?_
 unfold lM at h;cases hr:tD kE goal s with
 | bad er a=>rw [hr] at h;obtain⟨rfl,hb⟩:=h;exact⟨_,_,_,rfl,rfl,hb⟩
 | ok l t=>rw [hr] at h;obtain⟨pv,rfl,h1,hb⟩:=h;obtain⟨pa,pc,rfl⟩:=Grd.ID h1;exact⟨_,_,_,rfl,h1,hb⟩
theorem FY (w:World) (a b:Obj):Below w.heap.size w ((w.alloc a).alloc b)∧((w.alloc a).alloc b).heap[w.heap.size]?=some a∧((w.alloc a).alloc b).heap[w.heap.size+1]?=some b∧((w.alloc a).alloc b).heap.size=w.heap.size+1+1:=by
 have h1:=heap_alloc_new w a;have h2:=heap_alloc_new (w.alloc a) b;rw [World.size_alloc] at h2;have hb:=(Below.refl w.heap.size w).alloc (Nat.le_refl _) a;have hb2:=(Below.refl (w.alloc a).heap.size (w.alloc a)).alloc (Nat.le_refl _) b;exact⟨hb.alloc (by simp) b,(hb2.block _ (by simp)).trans h1,h2,by simp⟩
end
section
open Go.ChangeShapes Go.WideShapes Go.ChangeAt Go.RowKit Go.WideMaps
open Go.ChangeMaps (open_string)
section
variable {H:Type}{enc:TypeId × Value→H}{P:Program}
theorem AM (hl:laidOutB P=true) {W W':World} (hb:Below W.heap.size W W') :
  ∀ {ts:List TypeId}{vs:List Value}{ds:List (DataW H)}{ps:List MemPlace},(ts.all fun t=>P.readableRec t&&decide (t < P.types.size))=true →
   DataW.TrodAll enc P W 0 (fun _=>true) true ts vs ds ps→(∀ x∈ps,x.block < W.heap.size)→DataW.TrodAll enc P W' 0 (fun b=>decide (b < W.heap.size)) true ts vs ds ps:=by
 intro ts
 induction ts with
 | nil =>
  intro vs ds ps _ h _;obtain⟨rfl,rfl,rfl⟩:=trodAll_nil h;exact trodAll_mk0
 | cons t ts ih =>
  intro vs ds ps ht h hlt;obtain⟨v,vs',d,ds',p,q,rfl,rfl,rfl,h1,h2⟩:=trodAll_cons h;simp only [List.all_cons,Bool.and_eq_true,decide_eq_true_eq] at ht;exact trodAll_cons_mk (Below.trod hl ht.1.1 ht.1.2 h1 hb (fun x hx=>hlt x (List.mem_append_left _ hx)))
   (ih (by simpa using ht.2) h2 (fun x hx=>hlt x (List.mem_append_right _ hx)))
theorem AV {f:Func}{s:ChangeSpec}{b4:TypeId}{W W':World}{args:Array Value}{ds gs:List (DataW H)}{before:List MemPlace}
  (hl:laidOutB P=true) (hread:(f.params.toList.all fun t=>P.readableRec t&&decide (t < P.types.size))=true)
  (hvars:s.vars=[]) (hrt:f.resultTypes=#[b4]) (hu:P.underlying b4=some .bool)
  (hfn:(s.fn H (ds++gs)).results=[.lit (.bool true)]∧(s.fn H (ds++gs)).args=ds∧(s.fn H (ds++gs)).vars=[])
  (hW:DataW.Whole enc P f.params.toList s.vars false W args.toList ds gs before) (hb:Below W.heap.size W W') :
  s.post enc P f false true false false W args (.bool true) W':=by
 have hlt:∀ p∈before,p.block < W.heap.size:=fun p hp=>hW.lt p hp
 have hW':=hW;obtain⟨p,q,hA,hV,he,_,_⟩:=hW';rw [hvars] at hV;obtain⟨rfl,rfl⟩:=trodVars_none hV;have he:before=p++[]:=he;rw [List.append_nil] at he;subst he;refine⟨ds,[],before,[],before,[],hW,?_,?_,?_,World.keptBut_mono (fun x hx=>⟨hx,by simpa using hx⟩) (hb.frame (·∈before)),fun h=>by cases h⟩
 ·rw [hfn.1,hrt];exact trodAll_mk1 (shut_bool hu true)
 ·rw [hfn.2.1];exact AM hl hb hread hA hlt
 ·rw [hfn.2.2,hvars];exact rfl
end
end
section
open Go.ChangeShapes Go.WideShapes Go.ChangeAt Go.RowKit Go.WideMaps Go.Lib
theorem own:ownKnob Tryz.prog.godebug=none:=by kernel_rfl
theorem NW:laidOutB Tryz.prog=true:=by kernel_rfl
def uN:List (String × DataW Unit):=[("unicode/utf8.acceptRanges",Lib.acceptData),("unicode/utf8.first",Lib.firstData)]
noncomputable def YH (os:Os):World :=
 let w0:=World.holding Tryz.prog os ⟨#[],#[],[]⟩
 let put (h:Array Obj) (g:Nat) (cs:Array Value):Array Obj:=h.modify g fun
  | .cells _ t frozen=>.cells cs t frozen
  | o=>o
 let h1:=put w0.heap 1 (Lib.firstTab.map fun z=>Value.int .u8 z).toArray
 let h2:=put h1 2 ((List.range 16).flatMap fun i=>[Value.int .u8 (Lib.accLo i),Value.int .u8 (Lib.accHi i)]).toArray
 { w0 with heap:=h2 }
theorem LU (os:Os) (args:Array Value):laidMet Tryz.prog uN ((YH os).forCall (fun _ _=>0) ⟨#[],args,[]⟩).memory :=
 (LaidIn.of_run (l:=uN) [2,1] 8 (by kernel_rfl) (by kernel_rfl) (by kernel_rfl) (by kernel_rfl)).met
theorem FW {W:World} (hL:laidMet Tryz.prog uN W) (hsh:W.ShapedOpen Tryz.prog):NC W:=by
 refine⟨utf8Tabs_of_reads Tryz.lays260 ⟨by kernel_rfl,by kernel_rfl,by kernel_rfl,by kernel_rfl,by kernel_rfl,by kernel_rfl,by kernel_rfl⟩ (Lib.laidMet.reads hL (.tail _ (.head _))) (Lib.laidMet.reads hL (.head _)),?_⟩;obtain⟨m,hm⟩:=Tryz.laysM219.s1_3 W hsh;exact⟨m,hm⟩
end
end Go.Proofs.YtcjmpafkcmlhbaaGreatDoor
