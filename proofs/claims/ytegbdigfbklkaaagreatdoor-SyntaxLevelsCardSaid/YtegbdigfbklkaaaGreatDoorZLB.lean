import Derived.Deep.LoopGhost
import Derived.Deep.Onto
import Derived.Test.YtegbdigfbklkaaaGreatDoorZLA
import Derived.Test.YtegbdigfbklkaaaGreatDoorQAW
import Derived.Test.YtegbdigfbklkaaaGreatDoorQAJ
import Derived.Test.YtegbdigfbklkaaaGreatDoorQBW
namespace Go.Proofs.YtegbdigfbklkaaaGreatDoor
set_option linter.all false
set_option maxHeartbeats 40000000
set_option maxRecDepth 100000
section
open Go.RowKit
variable {w:World}
def Chain (o:List Nat):Nat→Nat→List Nat→Prop
 | j,e,[]=>j=e
 | j,e,x::r=>x=j∧j < e∧∃ j',o[j]?=some j'∧Chain o j' e r
theorem Chain.le {o:List Nat}:∀ {r:List Nat}{j e:Nat},Chain o j e r→j≤e
 | [],j,e,h=>by have h:j=e:=h;omega
 | x::r,j,e,h=>by have:=h.2.1;omega
theorem cell_nat {lo n cap j x:Nat}{a:Option Addr}{o:List Nat} (h:w.ownsRow lo 3 1 (.slice a n cap) n (Grd.ivs o)) (hj:o[j]?=some x) (hn:j < n):∃ g,a=some ⟨g,0,none⟩∧lo≤g∧g < w.heap.size∧w.cell? ⟨g,j,none⟩=some (.int .i64 (x:Int)):=by
 obtain⟨g,hg⟩:∃ g,a=some ⟨g,0,none⟩:=by
  rcases h.2 with ⟨_,hz⟩|⟨g,_,_,hv,_⟩
  ·omega
  ·cases hv;exact⟨g,rfl⟩
 subst hg
 have hc:=h.cellAt j (by omega)
 have e:(Grd.ivs o)[j]?=some (.int .i64 (x:Int)):=by unfold Grd.ivs;rw [List.getElem?_map,hj];rfl
 rw [e] at hc
 exact⟨g,rfl,(h.lt g rfl).1,(h.lt g rfl).2,hc⟩
theorem kids_walk (a:Option Addr) (cap:Nat) (l:List Grd.Pt) (i e:Nat) (o ks:List Nat) (hl:l.length≤1000000000) (h:Grd.PartsAt w a l) (hE:Grd.endsL (l.map Grd.Pt.n) 0=some (o,[0])) (hi:i < l.length) (he:o[i]?=some e) (hC:Chain o (i+1) e ks) (hk:ks.length≤1000000000) (hel:e≤l.length) :
  Calls Tryz.prog 9 #[.slice a l.length cap,.int .i64 i] w (fun x w'=>∃ v,x=.returned v∧w'.ownsRow w.heap.size 3 1 v ks.length (Grd.ivs ks)∧Below w.heap.size w w'):=by
 have hW:=Grd.well_gen (w:=w) a cap l (by omega) h
 unfold Grd.WellPost at hW
 have hwl:Grd.wellL (l.map Grd.Pt.n)=true:=by unfold Grd.wellL;rw [hE];rfl
 rw [hwl,hE] at hW
 have hol:o.length=l.length:=by have:=(Grd.endsL_len _ _ _ _ hE).1;simpa using this
 have HW:=Lib.hid hW
 obtain⟨i0,hi0,hz0,hz1,hz2⟩:=info_parts Grd.Tryz.infoI3
 have b1:decide ((i:Int) < 0)=false:=by simp
 have b2:decide ((l.length:Int)≤(i:Int))=false:=by simp;omega
 obtain⟨n,hn⟩:∃ n,n=l.length:=⟨_,rfl⟩
 rw [← hn] at HW b2 hi hl hol hel ⊢
 have hin:(i:Int) < (n:Int):=by omega
 have ee:0≤(i:Int):=by omega
 have b3:decide (n≤i)=false:=by simp;omega
 have b4:¬ n≤i:=by omega
 clear hW hE hwl h hn
 have HO:=Lib.hid hol
 have HC:=Lib.hid hC
 have HEE:=Lib.hid he
 clear hol hC he
 go_enter Tryz.func9,Tryz.ntmps9
 go_wp2_with (go_at_call 21;refine HW.out.mono ?_;rintro x w1 ⟨hb1,vo,rfl,hown⟩)
 obtain⟨va,vc,rfl⟩:=Grd.own_shape hown
 rw [HO.out] at *
 have hl1:=hb1.size
 obtain⟨g,rfl,hg0,hg1,hce⟩:=cell_nat hown HEE.out (by omega)
 have HOW:=Lib.hid hown
 have HB1:=Lib.hid hb1
 clear hown hb1
 go_loopg [7,8] ks.length (fun q v7 v8 wr=>∃ (done rest:List Nat) (j:Nat),ks=done++rest∧rest.length=q∧v8=.int .i64 (j:Int)∧Chain o j e rest ∧
  wr.ownsRow w.heap.size 3 1 (.slice (some ⟨g,0,none⟩) n vc) n (Grd.ivs o)∧wr.ownsRow w1.heap.size 3 1 v7 done.length (Grd.ivs done)∧Below w.heap.size w wr∧w1.heap.size≤wr.heap.size)
 case atStart=>exact⟨[],ks,i+1,rfl,rfl,by simp,HC.out,HOW.out,World.ownsRow_nil _ _ _ _,HB1.out,Nat.le_refl _⟩
 case round =>
  obtain⟨done,rest,j,hks,hq,rfl,hch,ho,hd,hb,hwr⟩:=hrel
  obtain⟨g',eg,_,hgw,hc1⟩:=cell_nat ho HEE.out (by omega)
  cases eg
  obtain⟨da,dc,rfl⟩:=Grd.own_shape hd
  cases rest with
  | nil =>
   obtain rfl:j=e:=hch
   have hf:ks=done:=by rw [hks,List.append_nil]
   have HD:=Lib.hid (hd.mono (base':=w.heap.size) hl1)
   have HB:=Lib.hid hb
   have HF:=Lib.hid hf
   clear hd hb ho hks hq hf
   go_wp2_with fail
   go_ret
   exact⟨_,rfl,by rw [HF.out];exact HD.out,HB.out⟩
  | cons x r =>
   obtain⟨rfl,hje,j2,hj2,hr⟩:=hch
   obtain⟨g',eg,_,_,hc2⟩:=cell_nat ho hj2 (by have:=HO.out;omega)
   cases eg
   have hji:(x:Int) < (e:Int):=by omega
   have hjn:(x:Int) < (n:Int):=by omega
   have hj0:0≤(x:Int):=by omega
   have hdl:done.length+(r.length+1)=ks.length:=by rw [hks,List.length_append,List.length_cons]
   have hcap:=Grd.own_cap hd
   have h63:done.length+1≤maxLen:=by unfold maxLen;omega
   have hby:(done.length+1)*8≤140737488355328:=by omega
   have hdg:=hd.lt
   have hb2:=hb.size
   have hw1r:w1.heap.size≤(wr.alloc (Obj.cells #[.int .i64 (x:Int)] 3)).heap.size:=by rw [World.size_alloc];omega
   have HKS:=Lib.hid hks
   have HR:=Lib.hid (And.intro hr hq)
   have HOO:=Lib.hid ho
   have HBB:=Lib.hid hb
   have HDG:=Lib.hid hdg
   have HD:=Lib.hid hd
   clear hks hr hq ho hb hdg
   go_upto_region 8 with fail
   go_wp2_with (at_builtin;refine wpList_append_own_at _ rfl (.tmp 38) (.tmp 40) 32 rfl w1.heap.size 3 i0 (.int .i64 0) 1 8 Tryz.underlying32 hi0 hz0 hz1 hz2 rfl (by decide) _ _ _ rfl (hd.alloc _) ⟨wr.heap.size,0,none⟩ 1 1 [.int .i64 (x:Int)] rfl rfl (cell_one_new _ _ _) (Grd.one_int _ _) h63 hby hw1r ?_)
   intro v2 w2 hown2 hgrow _ _
   have ho2:=(HOO.out.alloc (Obj.cells #[.int .i64 (x:Int)] 3)).kept hgrow (by
    right
    intro e
    have:=(HDG.out g e.symm).1
    omega)
   have hbl:=(HBB.out.alloc HBB.out.size (Obj.cells #[.int .i64 (x:Int)] 3)).grown hgrow (by have:=HBB.out.size;simp;omega) (fun k h=>by have:=(HDG.out k h).1;omega)
   have hsz:=hgrow.size
   have hsz2:w1.heap.size≤w2.heap.size:=by rw [World.size_alloc] at hsz;omega
   obtain⟨g',eg,_,_,hc3⟩:=cell_nat ho2 hj2 (by have:=HO.out;omega)
   cases eg
   have HN:=Lib.hid (And.intro hown2 (And.intro ho2 (And.intro hbl hsz2)))
   clear hgrow ho2 hbl hown2 hd hsz hsz2
   go_wp2_with fail
   go_roundg (gk - 1)
   case measure=>have:=HR.out.2;simp only [List.length_cons] at this;omega
   case rel =>
    obtain⟨k1,k2,k3,k4⟩:=HN.out
    refine⟨done++[x],r,j2,by rw [HKS.out];simp,by have:=HR.out.2;simp only [List.length_cons] at this;omega,rfl,HR.out.1,k2,?_,k3,k4⟩
    rw [show Grd.ivs (done++[x])=Grd.ivs done++[Value.int IntKind.i64 (x:Int)] by simp [Grd.ivs],List.length_append]
    exact k1
end
section
open Go.RowKit
variable {w:World}
def lvT:List (List (List UInt8)):=[[[124,124]],[[38,38]],[[61,61],[33,61],[60],[60,61],[62],[62,61]],[[43],[45],[124],[94]],[[42],[47],[37],[60,60],[62,62],[38],[38,94]]]
def lvN (i:Nat):Nat:=(lvT[i]?.getD []).length
def lvW (i j:Nat):List UInt8:=((lvT[i]?.getD [])[j]?).getD []
theorem lv_find:∀ x∈opsL,∃ i j,i < 5∧j < lvN i∧lvW i j=x∧levelW x=i+1:=by
 intro x hx
 simp only [opsL,List.mem_cons,List.not_mem_nil,or_false] at hx
 rcases hx with rfl|rfl|rfl|rfl|rfl|rfl|rfl|rfl|rfl|rfl|rfl|rfl|rfl|rfl|rfl|rfl|rfl|rfl|rfl
 ·exact⟨0,0,by decide⟩
 ·exact⟨1,0,by decide⟩
 ·exact⟨2,0,by decide⟩
 ·exact⟨2,1,by decide⟩
 ·exact⟨2,2,by decide⟩
 ·exact⟨2,3,by decide⟩
 ·exact⟨2,4,by decide⟩
 ·exact⟨2,5,by decide⟩
 ·exact⟨3,0,by decide⟩
 ·exact⟨3,1,by decide⟩
 ·exact⟨3,2,by decide⟩
 ·exact⟨3,3,by decide⟩
 ·exact⟨4,0,by decide⟩
 ·exact⟨4,1,by decide⟩
 ·exact⟨4,2,by decide⟩
 ·exact⟨4,3,by decide⟩
 ·exact⟨4,4,by decide⟩
 ·exact⟨4,5,by decide⟩
 ·exact⟨4,6,by decide⟩
theorem lv_one:∀ i:Fin 5,∀ j:Fin 7,∀ i2:Fin 5,∀ j2:Fin 7,j.val < lvN i.val→j2.val < lvN i2.val→lvW i.val j.val=lvW i2.val j2.val→i=i2∧j=j2:=by decide +kernel
theorem cell_in {w:World}{k:Nat}{cs:Array Value}{T:TypeId}{fr:Nat × Nat} (h:w.heap[k]?=some (.cells cs T fr)) (j:Nat):w.cell? ⟨k,j,none⟩=cs[j]?:=by unfold World.cell?;rw [h];rfl
theorem six_alloc (w:World) (a b c d e f:Obj):∃ w',w'=(((((w.alloc a).alloc b).alloc c).alloc d).alloc e).alloc f∧Below w.heap.size w w'∧w'.heap[w.heap.size]?=some a∧w'.heap[w.heap.size+1]?=some b∧w'.heap[w.heap.size+1+1]?=some c∧w'.heap[w.heap.size+1+1+1]?=some d∧w'.heap[w.heap.size+1+1+1+1]?=some e∧w'.heap[w.heap.size+1+1+1+1+1]?=some f:=by
 have st:∀ (w:World) (o:Obj),Below w.heap.size w (w.alloc o):=fun w o=>(Below.refl _ _).alloc (Nat.le_refl _) o
 refine⟨_,rfl,?_,?_⟩
 ·refine bthen (bthen (bthen (bthen (bthen (st w a) (st _ b)) (st _ c)) (st _ d)) (st _ e)) (st _ f)
 ·have h1:=heap_alloc_new w a
  have h2:=heap_alloc_new (w.alloc a) b
  have h3:=heap_alloc_new ((w.alloc a).alloc b) c
  have h4:=heap_alloc_new (((w.alloc a).alloc b).alloc c) d
  have h5:=heap_alloc_new ((((w.alloc a).alloc b).alloc c).alloc d) e
  have h6:=heap_alloc_new (((((w.alloc a).alloc b).alloc c).alloc d).alloc e) f
  simp only [World.size_alloc] at h1 h2 h3 h4 h5 h6
  have kp:∀ (w:World) (o x:Obj) (k:Nat),w.heap[k]?=some x→(w.alloc o).heap[k]?=some x:=fun w o x k h=>((st w o).block k (Array.getElem?_eq_some_iff.1 h).1).trans h
  exact⟨kp _ _ _ _ (kp _ _ _ _ (kp _ _ _ _ (kp _ _ _ _ (kp _ _ _ _ h1)))),kp _ _ _ _ (kp _ _ _ _ (kp _ _ _ _ (kp _ _ _ _ h2))),kp _ _ _ _ (kp _ _ _ _ (kp _ _ _ _ h3)),kp _ _ _ _ (kp _ _ _ _ h4),kp _ _ _ _ h5,h6⟩
theorem level_walk (x:List UInt8) (hx:x∈opsL):Calls Tryz.prog 10 #[.string ⟨x.toArray⟩] w (fun e w'=>e=.returned (.int .i64 (levelW x:Int))∧Below w.heap.size w w'):=by
 obtain⟨I,J,hI,hJ,hxe,hl⟩:=lv_find x hx
 rw [hl]
 have HX:=Lib.hid hxe
 have hJ7:J < 7:=by
  have:∀ i:Fin 5,lvN i.val≤7:=by decide
  have:lvN I≤7:=this ⟨I,hI⟩
  omega
 have HL:=Lib.hid (And.intro hI (And.intro hJ hJ7))
 clear hl hx hxe hI hJ hJ7
 go_enter Tryz.func10,Tryz.ntmps10
 go_upto_region 2 with fail
 obtain⟨wa,hwa,hB,h1,h2,h3,h4,h5,h6⟩:=six_alloc w (Obj.cells #[Value.string { data:=#[124,124] }] 9) (Obj.cells #[Value.string { data:=#[38,38] }] 9)
  (Obj.cells #[Value.string { data:=#[61,61] },Value.string { data:=#[33,61] },Value.string { data:=#[60] },Value.string { data:=#[60,61] },Value.string { data:=#[62] },Value.string { data:=#[62,61] }] 9)
  (Obj.cells #[Value.string { data:=#[43] },Value.string { data:=#[45] },Value.string { data:=#[124] },Value.string { data:=#[94] }] 9)
  (Obj.cells #[Value.string { data:=#[42] },Value.string { data:=#[47] },Value.string { data:=#[37] },Value.string { data:=#[60,60] },Value.string { data:=#[62,62] },Value.string { data:=#[38] },Value.string { data:=#[38,94] }] 9)
  (Obj.cells #[Value.slice (some ⟨w.heap.size,0,none⟩) 1 1,Value.slice (some ⟨w.heap.size+1,0,none⟩) 1 1,Value.slice (some ⟨w.heap.size+1+1,0,none⟩) 6 6,Value.slice (some ⟨w.heap.size+1+1+1,0,none⟩) 4 4,Value.slice (some ⟨w.heap.size+1+1+1+1,0,none⟩) 7 7] 23)
 rw [← hwa]
 have F1:∀ i,i < 5→wa.cell? ⟨w.heap.size+1+1+1+1+1,i,none⟩=some (.slice (some ⟨w.heap.size+i,0,none⟩) (lvN i) (lvN i)):=fun i hi=>by
  unfold World.cell?
  rw [h6]
  match i,hi with
  | 0,_=>rfl
  | 1,_=>rfl
  | 2,_=>rfl
  | 3,_=>rfl
  | 4,_=>rfl
 have F2:∀ i j,i < 5→j < lvN i→wa.cell? ⟨w.heap.size+i,j,none⟩=some (.string ⟨(lvW i j).toArray⟩):=fun i j hi hj=>by
  match i,hi,j,hj with
  | 0,_,0,_=>exact cell_in h1 0
  | 1,_,0,_=>exact cell_in h2 0
  | 2,_,0,_=>exact cell_in h3 0
  | 2,_,1,_=>exact cell_in h3 1
  | 2,_,2,_=>exact cell_in h3 2
  | 2,_,3,_=>exact cell_in h3 3
  | 2,_,4,_=>exact cell_in h3 4
  | 2,_,5,_=>exact cell_in h3 5
  | 3,_,0,_=>exact cell_in h4 0
  | 3,_,1,_=>exact cell_in h4 1
  | 3,_,2,_=>exact cell_in h4 2
  | 3,_,3,_=>exact cell_in h4 3
  | 4,_,0,_=>exact cell_in h5 0
  | 4,_,1,_=>exact cell_in h5 1
  | 4,_,2,_=>exact cell_in h5 2
  | 4,_,3,_=>exact cell_in h5 3
  | 4,_,4,_=>exact cell_in h5 4
  | 4,_,5,_=>exact cell_in h5 5
  | 4,_,6,_=>exact cell_in h5 6
  | 0,_,j+1,hj=>exact absurd (show j+1 < 1 from hj) (by omega)
  | 1,_,j+1,hj=>exact absurd (show j+1 < 1 from hj) (by omega)
  | 2,_,j+6,hj=>exact absurd (show j+6 < 6 from hj) (by omega)
  | 3,_,j+4,hj=>exact absurd (show j+4 < 4 from hj) (by omega)
  | 4,_,j+7,hj=>exact absurd (show j+7 < 7 from hj) (by omega)
 have HF:=Lib.hid (And.intro F1 F2)
 have HB:=Lib.hid hB
 clear hwa hB h1 h2 h3 h4 h5 h6 F1 F2
 generalize hBe:w.heap.size=B at *
 have HBE:=Lib.hid hBe
 clear hBe
 go_wp2_with fail
 go_loopg [2,4,5] I (fun q v2 v4 v5 wr=>∃ i:Nat,v4=.int .i64 (i:Int)∧i+q=I∧wr=wa)
 case atStart=>exact⟨0,rfl,by omega,rfl⟩
 case round =>
  obtain⟨i,rfl,hq,hw⟩:=hrel
  replace hw:=hw.symm
  subst hw
  have hI:=HL.out.1
  have hi5:(i:Int) < 5:=by omega
  have f1:=HF.out.1 i (by omega)
  obtain⟨N,hN⟩:∃ N,N=lvN i:=⟨_,rfl⟩
  rw [← hN] at f1
  have HN:=Lib.hid hN
  have HQ:=Lib.hid hq
  clear hI hN hq
  go_wp2_with fail
  go_loopg [2,5] (N+1) (fun q v2 v5 wr2=>∃ j:Nat,v5=.int .i64 (j:Int)∧j+q=N+1∧(i=I→j≤J)∧wr2=wa)
  case atStart=>exact⟨0,rfl,by omega,fun _=>by omega,rfl⟩
  case round =>
   obtain⟨j,rfl,hq2,hjJ,hw⟩:=hrel
   replace hw:=hw.symm
   subst hw
   have HQ2:=Lib.hid hq2
   have HJJ:=Lib.hid hjJ
   have hi0:0≤(i:Int):=by omega
   have hj0:0≤(j:Int):=by omega
   by_cases hj:j < N
   ·have hjN:(j:Int) < (N:Int):=by omega
    have hjb:(j:Int)≤7:=by
     have h7:lvN i≤7:=(show ∀ i:Fin 5,lvN i.val≤7 by decide) ⟨i,by omega⟩
     have hN:=HN.out
     omega
    have f2:=HF.out.2 i j (by omega) (by rw [← HN.out];exact hj)
    by_cases he:i=I∧j=J
    ·obtain⟨rfl,rfl⟩:=he
     rw [HX.out] at f2
     clear hq2 hjJ
     go_wp2_with fail
     go_ret
     exact⟨rfl,by rw [HBE.out];exact HB.out⟩
    ·have hne:(lvW i j==x)=false:=by
      refine beq_eq_false_iff_ne.2 fun e=>he ?_
      obtain⟨k1,k2,k3⟩:=HL.out
      have hN:=HN.out
      have h7:lvN i≤7:=(show ∀ i:Fin 5,lvN i.val≤7 by decide) ⟨i,by omega⟩
      have:=lv_one ⟨i,by omega⟩ ⟨j,by omega⟩ ⟨I,k1⟩ ⟨J,k3⟩ (show j < lvN i by omega) k2 (show lvW i j=lvW I J by rw [e,HX.out])
      exact⟨congrArg Fin.val this.1,congrArg Fin.val this.2⟩
     have HE:=Lib.hid he
     generalize lvW i j=y at *
     clear hq2 hjJ he
     go_wp2_with fail
     go_roundg (gk - 1)
     case measure=>have:=HQ2.out;omega
     case rel =>
      refine⟨j+1,by simp,by have:=HQ2.out;omega,fun e=>?_,rfl⟩
      have h1:=HJJ.out e
      have:j≠J:=fun h=>HE.out ⟨e,h⟩
      omega
   ·have hne:i≠I:=fun e=>by
     have h1:=HJJ.out e
     have h2:=HL.out.2.1
     have h3:=HN.out
     rw [e] at h3
     omega
    have HNE:=Lib.hid hne
    clear hq2 hjJ hne
    go_wp2_with fail
    go_roundg (I - (i+1))
    case measure=>have:=HQ.out;have:=HNE.out;omega
    case rel=>exact⟨i+1,by simp,by have:=HQ.out;have:=HNE.out;omega,rfl⟩
end
section
open Go.RowKit
variable {w:World}
attribute [local simp] ByteArray.mk_append_mk
def opW (o:UInt8):List UInt8:=opsL.getD (o.toNat % 19) []
theorem opW_mem (o:UInt8):opW o∈opsL:=by
 have h:∀ k:Fin 19,opsL.getD k.val []∈opsL:=by decide
 exact h ⟨o.toNat % 19,Nat.mod_lt _ (by decide)⟩
theorem altS_snoc:∀ (ws:List (List UInt8)) (x:List UInt8),altS (ws++[x])=altS ws++(32::(x++[32,120]))
 | [],x=>rfl
 | w::r,x=>by simp only [List.cons_append,altS,altS_snoc r x,List.append_assoc,List.cons_append]
theorem altS_le:∀ ws:List (List UInt8),(∀ x∈ws,x∈opsL)→(altS ws).length≤5*ws.length+1
 | [],_=>by decide
 | x::r,h=>by
  have h1:=altS_le r (fun y hy=>h y (.tail _ hy))
  have h2:x.length≤2:=(show ∀ w∈opsL,w.length≤2 by decide) x (h x (.head _))
  simp only [altS,List.length_cons,List.length_append]
  omega
def BytesAt (w:World) (a:Option Addr) (l:List UInt8):Prop :=
 l=[]∨∃ b off,a=some ⟨b,off,none⟩∧b < w.heap.size∧∀ j x,l[j]?=some x→w.cell? ⟨b,off+j,none⟩=some (.int .u8 (x.toNat:Int))
theorem partW_plain (E:Env) (k:UInt8) (h:k≠45) (wd:Int):partW E k wd=E.text wd:=by unfold partW;rw [if_neg h]
theorem pt_cells {E:Env}{root:Tr}{i b off f t:Nat}{k:UInt8}{wd:Int}{ks:List Tr} (hA:AtP E root i (.mk k wd f t ks)) (hk:k≠45)
  (h:∀ j p,((parts E root).map ptG)[j]?=some p→w.cell? ⟨b,off+j*3,none⟩=some (.int .u8 (p.k.toNat:Int))∧w.cell? ⟨b,off+j*3+1,none⟩=some (.int .i64 p.n)∧w.cell? ⟨b,off+j*3+2,none⟩=some (.string ⟨p.w.toArray⟩)) :
  w.cell? ⟨b,off+i*3,none⟩=some (.int .u8 (k.toNat:Int))∧w.cell? ⟨b,off+i*3+1,none⟩=some (.int .i64 (ks.length:Int))∧w.cell? ⟨b,off+i*3+2,none⟩=some (.string ⟨(E.text wd).toArray⟩):=by
 have:=h i (ptG ⟨k,ks.length,partW E k wd⟩) (by rw [List.getElem?_map,hA.part.1];rfl)
 rw [partW_plain _ _ hk] at this
 exact this
theorem stk_pop {lo m:Nat}{z:Int}{st:List Int}{v:Value} (h:w.ownsRow lo 3 1 v (m+1) ((z::st).reverse.map (Value.int .i64 ·))) (hm:m=st.length) :
  ∃ g vc,v=.slice (some ⟨g,0,none⟩) (m+1) vc∧lo≤g∧g < w.heap.size∧w.cell? ⟨g,m,none⟩=some (.int .i64 z)∧w.ownsRow lo 3 1 (.slice (some ⟨g,0,none⟩) m vc) m (st.reverse.map (Value.int .i64 ·))∧m+1≤vc:=by
 obtain⟨va,vc,rfl⟩:=Grd.own_shape h
 obtain⟨g,rfl⟩:∃ g,va=some ⟨g,0,none⟩:=by
  rcases h.2 with ⟨_,hz⟩|⟨g,_,_,hv,_⟩
  ·omega
  ·cases hv;exact⟨g,rfl⟩
 have hc:=h.cellAt m (by omega)
 have e:((z::st).reverse.map (Value.int IntKind.i64 ·))[m]?=some (Value.int .i64 z):=by
  rw [List.reverse_cons,List.map_append,List.getElem?_append_right (by simp;omega)]
  simp [hm]
 rw [e] at hc
 have ht:=Grd.own_take (m:=m) (by omega) h
 have e2:((z::st).reverse.map (Value.int IntKind.i64 ·)).take (m*1)=st.reverse.map (Value.int IntKind.i64 ·):=by
  rw [List.reverse_cons,List.map_append,Nat.mul_one,List.take_left' (by simp [hm])]
 rw [e2] at ht
 exact⟨g,vc,rfl,(h.lt g rfl).1,(h.lt g rfl).2,hc,ht,Grd.own_cap h⟩
theorem kids_chain {E:Env}{root y z:Tr}{i m a b:Nat} (hA:AtP E root i (.mk 37 m a b [y,z])):Chain (endsP root 0) (i+1) (i+cnt (.mk 37 m a b [y,z])) [i+1,i+1+cnt y]:=by
 obtain⟨h1,h2⟩:=hA.two
 have e1:=h1.part.2
 have e2:=h2.part.2
 have c1:=cnt_pos y
 have c2:=cnt_pos z
 have e:cnt (.mk 37 m a b [y,z])=1+(cnt y+(cnt z+0)):=by simp [cnt,cntL]
 refine⟨rfl,by omega,_,e1,rfl,by omega,_,e2,?_⟩
 show i+1+cnt y+cnt z=_
 omega
theorem Stk.len {E:Env}{root:Tr}{st:List Int}{tx:List UInt8}{n:Nat} (h:Stk E root st tx n):st.length≤n:=by
 induction h with
 | nil=>exact Nat.le_refl _
 | tree i x a b st tx n _ _ _ ih=>have:=cnt_pos x;rw [List.length_cons];omega
 | op i m f t ks st tx n _ _ ih=>rw [List.length_cons];omega
theorem bin_form {E:Env}{x:Tr}{a b:Nat} (h:Bin E x a b):∃ k wd f t ks,x=.mk k wd f t ks∧k≠45∧(k=26∨k=37∧E.text wd∈opsL∧lvl E x=levelW (E.text wd)):=by
 cases h with
 | name a=>exact⟨_,_,_,_,_,rfl,by decide,.inl rfl⟩
 | bin x y a m b hx hy h3 h4 h5=>exact⟨_,_,_,_,_,rfl,by decide,.inr ⟨rfl,by rw [ops_text h3];exact h3,(Bin.level (.bin x y a m b hx hy h3 h4 h5) rfl)⟩⟩
theorem two_parts (w:World) (o o':Obj) (cs cs':Array Value) (T:TypeId) (ho:o=.cells cs T (0,0)) (ho':o'=.cells cs' T (0,0)):w.heap.size < ((w.alloc o).alloc o').drew.heap.size∧w.heap.size+1 < ((w.alloc o).alloc o').drew.heap.size ∧
  (∀ j:Nat,((w.alloc o).alloc o').drew.cell? ⟨w.heap.size,j,none⟩=cs[j]?)∧(∀ j:Nat,((w.alloc o).alloc o').drew.cell? ⟨w.heap.size+1,j,none⟩=cs'[j]?)∧Below w.heap.size w ((w.alloc o).alloc o').drew:=by
 obtain⟨hb,h1,h2,h3⟩:=two_alloc w o o'
 subst ho ho'
 exact⟨by show _ < ((w.alloc _).alloc _).heap.size;omega,by show _ < ((w.alloc _).alloc _).heap.size;omega,fun j=>cell_in h1 j,fun j=>cell_in h2 j,hb.drew⟩
theorem held5 {w w':World}{p1 p2 p3 p4 p5:Addr}{v1 v2 v3 v4 v5:Value} (hb:Below w.heap.size w w') (h:w.cell? p1=some v1∧w.cell? p2=some v2∧w.cell? p3=some v3∧w.cell? p4=some v4∧w.cell? p5=some v5) :
  w'.cell? p1=some v1∧w'.cell? p2=some v2∧w'.cell? p3=some v3∧w'.cell? p4=some v4∧w'.cell? p5=some v5 :=
 ⟨keepCell hb h.1,keepCell hb h.2.1,keepCell hb h.2.2.1,keepCell hb h.2.2.2.1,keepCell hb h.2.2.2.2⟩
theorem kids_nums (l:List Pt3):(l.map ptG).map Grd.Pt.n=kidsI l:=by simp [kidsI,ptG]
theorem levels_law (a:Option Addr) (cap:Nat) (os:List UInt8) (hcap:os.length≤cap) (hA:BytesAt w a os) (hT:Tabs w):Calls Tryz.prog 3 #[.slice a os.length cap] w (fun e w'=>e=.returned (.bool true)∧Below w.heap.size w w'):=by
 obtain⟨M,hM⟩:∃ M,M=min os.length 40:=⟨_,rfl⟩
 have HM:=Lib.hid hM
 have HA:=Lib.hid hA
 have HT:=Lib.hid hT
 obtain⟨n,hn⟩:∃ n,n=os.length:=⟨_,rfl⟩
 rw [← hn] at hcap hM ⊢
 have HN:=Lib.hid hn
 clear hn hA hT
 go_enter Tryz.func3,Tryz.ntmps3
 go_upto_region 2 with fail
 obtain⟨O1,hO1⟩:∃ O,O=(Obj.cells #[Value.string { data:=#[124,124] },Value.string { data:=#[38,38] },Value.string { data:=#[61,61] },Value.string { data:=#[33,61] },Value.string { data:=#[60] },Value.string { data:=#[60,61] },Value.string { data:=#[62] },Value.string { data:=#[62,61] },Value.string { data:=#[43] },Value.string { data:=#[45] },Value.string { data:=#[124] },Value.string { data:=#[94] },Value.string { data:=#[42] },Value.string { data:=#[47] },Value.string { data:=#[37] },Value.string { data:=#[60,60] },Value.string { data:=#[62,62] },Value.string { data:=#[38] },Value.string { data:=#[38,94] }] 9):=⟨_,rfl⟩
 rw [← hO1]
 have hB1:=(Below.refl w.heap.size w).alloc (Nat.le_refl _) O1
 have h1:=heap_alloc_new w O1
 have F1:∀ k:Fin 19,(w.alloc O1).cell? ⟨w.heap.size,k.val,none⟩=some (.string ⟨(opsL.getD k.val []).toArray⟩):=fun k=>by
  have h2:=h1.trans (congrArg some hO1)
  match k with
  | ⟨0,_⟩=>exact cell_in h2 0
  | ⟨1,_⟩=>exact cell_in h2 1
  | ⟨2,_⟩=>exact cell_in h2 2
  | ⟨3,_⟩=>exact cell_in h2 3
  | ⟨4,_⟩=>exact cell_in h2 4
  | ⟨5,_⟩=>exact cell_in h2 5
  | ⟨6,_⟩=>exact cell_in h2 6
  | ⟨7,_⟩=>exact cell_in h2 7
  | ⟨8,_⟩=>exact cell_in h2 8
  | ⟨9,_⟩=>exact cell_in h2 9
  | ⟨10,_⟩=>exact cell_in h2 10
  | ⟨11,_⟩=>exact cell_in h2 11
  | ⟨12,_⟩=>exact cell_in h2 12
  | ⟨13,_⟩=>exact cell_in h2 13
  | ⟨14,_⟩=>exact cell_in h2 14
  | ⟨15,_⟩=>exact cell_in h2 15
  | ⟨16,_⟩=>exact cell_in h2 16
  | ⟨17,_⟩=>exact cell_in h2 17
  | ⟨18,_⟩=>exact cell_in h2 18
  | ⟨k+19,h⟩=>exact absurd h (by omega)
 have HF:=Lib.hid F1
 have HB1:=Lib.hid hB1
 clear F1 h1 hB1 hO1
 generalize w.alloc O1=w1 at *
 obtain⟨B,hB⟩:∃ B,B=w.heap.size:=⟨_,rfl⟩
 rw [← hB] at HF ⊢
 have HBE:=Lib.hid hB
 clear hB
 go_upto_if 17 with fail
 go_cut [0] from 18 to 19 (fun v0 wx=>v0=.slice a M cap∧wx=w1)
 case first =>
  by_cases h40:40 < n
  ·have e1:decide ((40:Int) < (n:Int))=true:=by simp;omega
   have hc40:(40:Int)≤(cap:Int):=by omega
   have hM2:M=40:=by omega
   have HM2:=Lib.hid hM2
   clear hM hM2
   go_wp2_with fail
   go_meet
   exact⟨by rw [HM2.out],rfl⟩
  ·have e1:decide ((40:Int) < (n:Int))=false:=by simp;omega
   have hM2:M=n:=by omega
   have HM2:=Lib.hid hM2
   clear hM hM2
   go_wp2_with fail
   go_meet
   exact⟨by rw [HM2.out],rfl⟩
 case rest =>
  obtain⟨rfl,hw⟩:=hcut
  replace hw:=hw.symm
  subst hw
  obtain⟨ws,hws⟩:∃ ws,ws=(os.take 40).map opW:=⟨_,rfl⟩
  have hwl:ws.length=M:=by rw [hws,HM.out,List.length_map,List.length_take];omega
  have HW:=Lib.hid (And.intro hws hwl)
  clear hws hwl hM
  go_wp2_with fail
  go_loopg [4,5] M (fun q v4 v5 wr=>∃ i:Nat,v5=.int .i64 (i:Int)∧i+q=M∧v4=.string ⟨(altS (ws.take i)).toArray⟩∧wr=w1)
  case atStart=>exact⟨0,rfl,by omega,by rw [List.take_zero];rfl,rfl⟩
  case round =>
   obtain⟨i,rfl,hq,rfl,hw⟩:=hrel
   replace hw:=hw.symm
   subst hw
   by_cases hi:i < M
   ·have hio:i < os.length:=by have:=HM.out;omega
    have ho:os[i]?=some os[i]:=List.getElem?_eq_getElem hio
    rcases HA.out with h0|⟨b,off,rfl,hb,hc⟩
    ·rw [h0] at hio;simp at hio
    have hci:=keepC HB1.out (p:=⟨b,off+i,none⟩) hb (hc i _ ho)
    have hws:(ws.take (i+1))=ws.take i++[opW os[i]]:=by
     have h1:ws[i]?=some (opW os[i]):=by rw [HW.out.1,List.getElem?_map,List.getElem?_take,if_pos (by have:=HM.out;omega),ho];rfl
     rw [List.take_succ,h1];rfl
    have HWS:=Lib.hid hws
    have hk:os[i].toNat % 19 < 19:=Nat.mod_lt _ (by decide)
    have hck:=HF.out ⟨os[i].toNat % 19,hk⟩
    have hop:opW os[i]=opsL.getD (os[i].toNat % 19) []:=rfl
    rw [show opsL.getD (Fin.mk (os[i].toNat % 19) hk).val []=opW os[i] from rfl] at hck
    generalize hx:opW os[i]=x at *
    have hk2:((os[i].toNat % 19:Nat):Int) < 19:=by omega
    have hk0:(0:Int)≤((os[i].toNat % 19:Nat):Int):=by omega
    have ht:((os[i].toNat:Int)).tmod 19=((os[i].toNat % 19:Nat):Int):=rfl
    have hiM:(i:Int) < (M:Int):=by omega
    have hib:(i:Int) < 40:=by have:=HM.out;omega
    have hlt:os[i].toNat < 256:=UInt8.toNat_lt _
    generalize os[i].toNat=o at *
    have hwr:IntKind.i64.wrap (o:Int)=(o:Int):=by simp [IntKind.wrap,IntKind.bits,IntKind.signed];omega
    have hwk:IntKind.i64.wrap ((o:Int).tmod 19)=((o % 19:Nat):Int):=by rw [ht];simp [IntKind.wrap,IntKind.bits,IntKind.signed];omega
    generalize o % 19=kk at *
    have hxl:x.length≤2:=by rw [← hx];exact (show ∀ w∈opsL,w.length≤2 by decide) _ (opW_mem _)
    have hall:(altS (ws.take i)).length≤65536:=by
     have h1:=altS_le (ws.take i) (fun y hy=>by
      have:=List.mem_of_mem_take hy
      rw [HW.out.1] at this
      obtain⟨z,_,rfl⟩:=List.mem_map.1 this
      exact opW_mem z)
     rw [List.length_take] at h1
     have:=HW.out.2
     have:=HM.out
     omega
    generalize hAA:altS (ws.take i)=A at *
    have HAA:=Lib.hid hAA
    clear hws ho hop hx hc hio hAA
    go_wp2_with fail
    go_roundg (gk - 1)
    case measure=>omega
    case rel=>exact⟨i+1,by simp,by omega,by rw [HWS.out,altS_snoc,HAA.out],rfl⟩
   ·have hiM:i=M:=by omega
    have htk:ws.take i=ws:=by rw [hiM,← HW.out.2,List.take_length]
    rw [htk]
    have hM40:M≤40:=by have:=HM.out;omega
    have hmem:∀ x∈ws,x∈opsL:=fun x hx=>by
     rw [HW.out.1] at hx
     obtain⟨z,_,rfl⟩:=List.mem_map.1 hx
     exact opW_mem z
    have hsl:(altS ws).length≤65536:=by have:=altS_le ws hmem;have:=HW.out.2;omega
    obtain⟨l,t,hR,hcnt,hS⟩:=levels_read hmem hsl
    clear htk hiM hq
    obtain⟨s,hs⟩:∃ s,s=altS ws:=⟨_,rfl⟩
    rw [← hs] at hR hS ⊢
    have HM0:=Lib.hid (fun w h=>term_any (w:=w) 2 s h)
    have HTA:=Lib.hid (HT.out.below HB1.out)
    have HS:=Lib.hid (And.intro hR (And.intro hcnt (And.intro hS (And.intro hs (And.intro hmem hsl)))))
    clear hR hcnt hS hs hmem hsl
    have e1:decide ((M:Int) < (M:Int))=false:=by simp
    go_upto_region 10 with (go_at_call 6;refine (HM0.out _ HTA.out).mono ?_;rintro e w4 ⟨pa3,pn3,pc3,rfl,hq3,hb3⟩)
    obtain⟨hR,hcnt,hS,hs,hmem,hsl⟩:=HS.out
    rw [hR] at hq3
    replace hq3:w4.ownsRow w1.heap.size 34 3 (.slice pa3 pn3 pc3) (parts ⟨s,l,[]⟩ t).length (pt3sV (parts ⟨s,l,[]⟩ t)):=hq3
    rw [hR]
    simp only [errR]
    obtain⟨OF,hOF⟩:∃ O,O=Obj.cells #[.int .i64 (((0:Nat)):Int),.int .i64 (((0:Nat)):Int)] 27 (0,0):=⟨_,rfl⟩
    have C1:=heap_alloc_new w4 OF
    have bC:=(Below.refl w4.heap.size w4).alloc (Nat.le_refl _) OF
    rw [← hOF]
    have ep:pn3=(parts ⟨s,l,[]⟩ t).length:=by obtain⟨_,_,e⟩:=Grd.own_shape hq3;cases e;rfl
    have hpl:=parts_len ⟨s,l,[]⟩ t
    have hw4:=hb3.size
    have BC:=bthen HB1.out (hb3.trans (bC.mono hw4))
    have R3:=own_fr hq3 (Fr.below (X:=[]) bC) (by simp)
    generalize w4.alloc OF=wC at *
    rw [hOF] at C1
    obtain⟨f1,f2,_,_⟩:=two_cells C1
    have hpm:pn3=2*M+1:=by rw [ep,hpl,hcnt,HW.out.2]
    have R3':wC.ownsRow w1.heap.size 34 3 (.slice pa3 (parts ⟨s,l,[]⟩ t).length pc3) (parts ⟨s,l,[]⟩ t).length (pt3sV (parts ⟨s,l,[]⟩ t)):=by rw [← ep];rw [← ep] at R3;exact R3
    have HTC:=Lib.hid (HT.out.below BC)
    have HX:=Lib.hid (fun w h=>fixed_walk (w:=w) h)
    have HC2:=fun (w':World) (hb:Below wC.heap.size wC w')=>rterm_good hR (HT.out.below (bthen BC hb)) (own_fr R3' (Fr.below (X:=[]) hb) (by simp))
    rw [← ep] at HC2
    have HC2:=Lib.hid HC2
    have HR3:=Lib.hid (And.intro R3' (And.intro ep hpm))
    have HBC:=Lib.hid BC
    have q1:(pn3:Int)=2*(M:Int)+1:=by omega
    have q2:((pn3:Int) != 2*(M:Int)+1)=false:=by rw [q1];simp
    have q3:(M:Int)≤40:=by omega
    have f3:(((0:Nat):Int))=0:=rfl
    rw [f3] at f1 f2
    clear hR hcnt hS hs hmem hsl hq3 hb3 bC C1 hOF R3 R3' BC ep hpl hw4
    clear hpm
    go_upto_region 13 with (first|(go_at_call 7;refine (HX.out _ HTC.out).mono ?_;rintro e w9 ⟨rfl,hb9⟩;have f1:=keepCell hb9 f1;have f2:=keepCell hb9 f2;have HB9:=Lib.hid hb9;clear hb9)|(go_at_call 8;refine (HC2.out _ HB9.out).mono ?_;rintro e w11 ⟨rfl,hb11⟩;have HB11:=Lib.hid (bthen HB9.out hb11);clear hb11))
    clear f1 f2 q1 q2 f3
    go_wp2_with fail
    obtain⟨hR,hcnt,hS,hs,hmem,hsl⟩:=HS.out
    have hS:Stk ⟨s,l,[]⟩ t [0] (32::s) (2*cnt t):=by rw [hs] at hS ⊢;exact hS
    have hbw:=(Below.refl w11.heap.size w11).alloc (Nat.le_refl _) (Obj.cells #[Value.int IntKind.i64 0] 3)
    have hown:(w11.alloc (Obj.cells #[Value.int IntKind.i64 0] 3)).ownsRow w11.heap.size 3 1 (.slice (some ⟨w11.heap.size,0,none⟩) 1 1) 1 [Value.int .i64 0] :=
     ⟨rfl,.inr ⟨w11.heap.size,1,#[Value.int IntKind.i64 0],rfl,Nat.le_refl _,heap_alloc_new _ _,Nat.le_refl _,by unfold maxLen;omega,rfl,rfl⟩⟩
    have HST:=Lib.hid (And.intro hS (And.intro hbw hown))
    clear hR hcnt hS hs hmem hsl hbw hown
    go_loopg [2,8,9,10,11,12,13] (2*cnt t) (fun q v2 v8 v9 v10 v11 v12 v13 wr=>∃ (st:List Int) (pre rest:List UInt8),Stk ⟨s,l,[]⟩ t st rest q∧pre++rest=32::s∧v8=.string ⟨pre.toArray⟩ ∧
     wr.ownsRow w11.heap.size 3 1 v9 st.length (st.reverse.map (Value.int .i64 ·))∧Below w11.heap.size w11 wr∧q≤1000)
    case atStart=>exact⟨[0],[],32::s,HST.out.1,rfl,rfl,HST.out.2.2,HST.out.2.1,by have:=HS.out.2.1;have:=HM.out;have:=HW.out.2;omega⟩
    case round =>
     obtain⟨st,pre,rest,hSt,hpr,rfl,hst,hbl,hq1000⟩:=hrel
     have hssl:s.length≤65536:=by have h1:=HS.out.2.2.2.2.2;have h2:=HS.out.2.2.2.1;rw [h2];exact h1
     cases hSt with
     | nil =>
      have hp:pre=32::s:=by rw [← hpr,List.append_nil]
      obtain⟨va,vc,rfl⟩:=Grd.own_shape hst
      subst hp
      have HB:=Lib.hid (bthen HBC.out (bthen HB11.out hbl))
      clear hst hbl hpr
      simp only [List.length_nil]
      go_wp2_with fail
      go_ret
      exact⟨by simp,HB.out⟩
     | tree i2 x a2 b2 st2 tx n2 h1 h2 h3 =>
      obtain⟨m,hm⟩:∃ m,m=st2.length:=⟨_,rfl⟩
      rw [List.length_cons,← hm] at hst
      obtain⟨g,vc,rfl,hg0,hg1,hcg,hown,hvc⟩:=stk_pop hst hm
      have hlt:=h1.lt
      have hcp:=cnt_pos x
      rcases (parts_at HR3.out.1 rfl).later (bthen HB11.out hbl) with h0|⟨pb,po,rfl,hpb,hcl⟩
      ·have h0:(parts ⟨s,l,[]⟩ t).length=0:=by simpa using congrArg List.length h0
       omega
      have hip:(i2:Int) < (pn3:Int):=by have:=HR3.out.2.1;omega
      have hi0:0≤(i2:Int):=by omega
      have hz0:decide ((i2:Int) < 0)=false:=by simp
      have hpn:=HR3.out.2.2
      have hM40:M≤40:=by have:=HM.out;omega
      obtain⟨N,hN⟩:∃ N,N=m+1:=⟨_,rfl⟩
      have hm40:m≤1000000:=by have:=h3.len;omega
      rw [← hN]
      have hw2:IntKind.i64.wrap ((N:Int) - 1)=(m:Int):=by rw [hN];simp [IntKind.wrap,IntKind.bits,IntKind.signed];omega
      have hN0:decide ((0:Int) < (N:Int))=true:=by simp;omega
      have hmN:(m:Int) < (N:Int):=by omega
      have hm0:0≤(m:Int):=by omega
      have hmc:(m:Int)≤(vc:Int):=by omega
      have hpl:pre.length≤65537:=by
       have:=congrArg List.length hpr
       rw [List.length_append,List.length_cons] at this
       omega
      have HQK:=Lib.hid hq1000
      cases h2 with
      | name a =>
       obtain⟨c0,_,c2⟩:=pt_cells h1 (by decide) hcl
       have hwl:pre.length+((tkx ⟨s,l,[]⟩ a2).length+tx.length)=s.length+1:=by
        have:=congrArg List.length hpr
        rw [show a2+1 - a2=1 by omega,inTx_one] at this
        simpa using this
       rw [show a2+1 - a2=1 by omega,inTx_one] at hpr
       have htk:tkx ⟨s,l,[]⟩ a2=32::Env.text ⟨s,l,[]⟩ (a2:Int):=rfl
       rw [htk] at hpr hwl
       generalize Env.text ⟨s,l,[]⟩ (a2:Int)=W at *
       rw [List.length_cons] at hwl
       have hWl:W.length≤65537:=by omega
       have HST3:=Lib.hid (And.intro h3 (And.intro hpr (And.intro hown (And.intro hbl hm))))
       clear h1 h3 hpr hown hbl hst hlt hcp hcl hwl htk hN hpn hm hg0 hg1 hvc hq1000
       go_wp2_with fail
       go_roundg n2
       case measure=>simp [cnt,cntL]
       case rel =>
        obtain⟨k1,k2,k3,k4,k5⟩:=HST3.out
        exact⟨st2,pre++(32::W),tx,k1,by rw [List.append_assoc];exact k2,by simp,by rw [← k5];exact k3,k4,by have:=HQK.out;omega⟩
      | bin y z a m5 b hy hz hop hl1 hl2 =>
       obtain⟨c0,_,c2⟩:=pt_cells h1 (by decide) hcl
       have hop':=hop
       rw [← ops_text hop] at hop' hl1 hl2
       obtain⟨hAy,hAz⟩:=h1.two
       have hch:=kids_chain h1
       have hS5:=Stk.bin h1 hy hz h3
       obtain⟨ky,wy,fy,ty,sy,hye,hky,hy2⟩:=bin_form hy
       obtain⟨kz,wz,fz,tz,sz,hze,hkz,hz2⟩:=bin_form hz
       have hly:=hAy.lt
       have hlz:=hAz.lt
       have hcy:=cnt_pos y
       have hcz:=cnt_pos z
       obtain⟨iz,hiz⟩:∃ j,j=i2+1+cnt y:=⟨_,rfl⟩
       obtain⟨iy,hiy⟩:∃ j,j=i2+1:=⟨_,rfl⟩
       rw [← hiz] at hch hS5 hAz hlz
       rw [← hiy] at hch hS5 hAy hly
       have HS5:=Lib.hid hS5
       rw [hye] at hAy
       rw [hze] at hAz
       obtain⟨a0,a1,a2'⟩:=pt_cells hAy hky hcl
       obtain⟨b0,b1,b2'⟩:=pt_cells hAz hkz hcl
       have hkw:=fun (w':World) (hb:Below wr.heap.size wr w')=>kids_walk (w:=w') (some ⟨pb,po,none⟩) pc3 ((parts ⟨s,l,[]⟩ t).map ptG) i2 (i2+cnt (.mk 37 m5 a2 b2 [y,z])) (endsP t 0) [iy,iz]
        (by have:=HR3.out.2.1;rw [List.length_map];omega) ((Grd.PartsAt.later (.inr ⟨pb,po,rfl,hpb,hcl⟩) hb)) (by rw [kids_nums];exact ends_all _ t) (by rw [List.length_map];omega) h1.part.2 (by rw [← hiy];exact hch) (by simp) (by rw [List.length_map];omega)
       rw [List.length_map,← HR3.out.2.1] at hkw
       simp only [List.length_cons,List.length_nil,Nat.zero_add,Nat.reduceAdd] at hkw
       have hyp:(iy:Int) < (pn3:Int):=by have:=HR3.out.2.1;omega
       have hzp:(iz:Int) < (pn3:Int):=by have:=HR3.out.2.1;omega
       have hy0:0≤(iy:Int):=by omega
       have hzz:0≤(iz:Int):=by omega
       have HKW:=Lib.hid hkw
       have hBr:=Below.refl wr.heap.size wr
       have HBR:=Lib.hid hBr
       have HCE:=Lib.hid (And.intro c2 (And.intro a0 (And.intro a1 (And.intro a2' (And.intro b0 (And.intro b1 b2'))))))
       have HPB:=Lib.hid hpb
       have HAA:=Lib.hid (And.intro hy2 (And.intro hz2 (And.intro hop' (And.intro hl1 hl2))))
       have HST3:=Lib.hid (And.intro hpr (And.intro hown (And.intro hbl (And.intro hm hiz))))
       clear h1 h3 hpr hown hbl hst hlt hcp hcl hN hpn hm hg0 hg1 hvc hq1000 hAy hAz hy hz hop hop' hl1 hl2 hkw hBr hpb hch hS5 hiy hiz hy2 hz2 a0 a1 a2' b0 b1 b2' hye hze hly hlz
       go_upto_region 24 with (go_at_call 9;refine (HKW.out _ HBR.out).mono ?_;rintro e w20 ⟨vk,rfl,hk,hbk⟩)
       obtain⟨ka,kc,rfl⟩:=Grd.own_shape hk
       obtain⟨g2,rfl,hg20,hg21,d0⟩:=cell_nat hk (j:=0) (x:=iy) rfl (by omega)
       obtain⟨_,ek,_,_,d1⟩:=cell_nat hk (j:=1) (x:=iz) rfl (by omega)
       cases ek
       obtain⟨c2,a0,a1,a2',b0,b1,b2'⟩:=HCE.out
       replace c2:=keepC hbk (p:=⟨pb,po+i2*3+2,none⟩) HPB.out c2
       replace a0:=keepC hbk (p:=⟨pb,po+iy*3,none⟩) HPB.out a0
       replace a1:=keepC hbk (p:=⟨pb,po+iy*3+1,none⟩) HPB.out a1
       replace a2':=keepC hbk (p:=⟨pb,po+iy*3+2,none⟩) HPB.out a2'
       replace b0:=keepC hbk (p:=⟨pb,po+iz*3,none⟩) HPB.out b0
       replace b1:=keepC hbk (p:=⟨pb,po+iz*3+1,none⟩) HPB.out b1
       replace b2':=keepC hbk (p:=⟨pb,po+iz*3+2,none⟩) HPB.out b2'
       have HK:=Lib.hid (And.intro hk (And.intro hbk (And.intro hg20 hg21)))
       clear hk hbk hg20 hg21
       generalize sy.length=ny at *
       generalize sz.length=nz at *
       generalize Env.text ⟨s,l,[]⟩ wy=Wy at *
       generalize Env.text ⟨s,l,[]⟩ wz=Wz at *
       generalize Env.text ⟨s,l,[]⟩ (m5:Int)=Wm at *
       go_upto_region 26 with fail
       go_cut [12,13] from 119 to 173 (fun v12 v13 wx=>∃ ba bb,v12=.pointer (some ⟨ba,0,none⟩)∧v13=.pointer (some ⟨bb,0,none⟩)∧ba < wx.heap.size∧bb < wx.heap.size∧wx.cell? ⟨ba,0,none⟩=some (.int .u8 (ky.toNat:Int))∧wx.cell? ⟨ba,2,none⟩=some (.string ⟨Wy.toArray⟩)∧wx.cell? ⟨bb,0,none⟩=some (.int .u8 (kz.toNat:Int))∧wx.cell? ⟨bb,2,none⟩=some (.string ⟨Wz.toArray⟩)∧Below w20.heap.size w20 wx)
       case first =>
        have hpb2:pb < w20.heap.size:=Nat.lt_of_lt_of_le HPB.out HK.out.2.1.size
        have hg22:g2 < w20.heap.size:=HK.out.2.2.2
        have hal:=fun o=>(Below.refl w20.heap.size w20).alloc (Nat.le_refl _) o
        have hal2:=fun o o'=>(hal o).alloc (hal o).size o'
        have a0x:=fun o=>keepC (hal o) (p:=⟨pb,po+iy*3,none⟩) hpb2 a0
        have a0y:=fun o o'=>keepC (hal2 o o') (p:=⟨pb,po+iy*3,none⟩) hpb2 a0
        have a1x:=fun o=>keepC (hal o) (p:=⟨pb,po+iy*3+1,none⟩) hpb2 a1
        have a1y:=fun o o'=>keepC (hal2 o o') (p:=⟨pb,po+iy*3+1,none⟩) hpb2 a1
        have a2x:=fun o=>keepC (hal o) (p:=⟨pb,po+iy*3+2,none⟩) hpb2 a2'
        have a2y:=fun o o'=>keepC (hal2 o o') (p:=⟨pb,po+iy*3+2,none⟩) hpb2 a2'
        have b0x:=fun o=>keepC (hal o) (p:=⟨pb,po+iz*3,none⟩) hpb2 b0
        have b0y:=fun o o'=>keepC (hal2 o o') (p:=⟨pb,po+iz*3,none⟩) hpb2 b0
        have b1x:=fun o=>keepC (hal o) (p:=⟨pb,po+iz*3+1,none⟩) hpb2 b1
        have b1y:=fun o o'=>keepC (hal2 o o') (p:=⟨pb,po+iz*3+1,none⟩) hpb2 b1
        have b2x:=fun o=>keepC (hal o) (p:=⟨pb,po+iz*3+2,none⟩) hpb2 b2'
        have b2y:=fun o o'=>keepC (hal2 o o') (p:=⟨pb,po+iz*3+2,none⟩) hpb2 b2'
        have d0x:=fun o=>keepC (hal o) (p:=⟨g2,0,none⟩) hg22 d0
        have d0y:=fun o o'=>keepC (hal2 o o') (p:=⟨g2,0,none⟩) hg22 d0
        have d1x:=fun o=>keepC (hal o) (p:=⟨g2,1,none⟩) hg22 d1
        have d1y:=fun o o'=>keepC (hal2 o o') (p:=⟨g2,1,none⟩) hg22 d1
        clear hpb2 hg22 hal hal2
        go_region
        all_goals (go_wp2_with fail;go_meet)
        all_goals clear a0 a1 a2' b0 b1 b2'
        ·obtain⟨q1,q2,q3,q4,q5⟩:=two_parts w20 _ _ _ _ 34 rfl rfl
         exact⟨_,_,rfl,rfl,q1,q2,q3 0,q3 2,q4 0,q4 2,q5⟩
        ·obtain⟨q1,q2,q3,q4,q5⟩:=two_parts w20 _ _ _ _ 34 rfl rfl
         exact⟨_,_,rfl,rfl,q2,q1,q4 0,q4 2,q3 0,q3 2,q5⟩
       case rest =>
        obtain⟨ba,bb,rfl,rfl,hba,hbb,e0,e2,f0,f2,hbx⟩:=hcut
        have hpb2:pb < w20.heap.size:=Nat.lt_of_lt_of_le HPB.out HK.out.2.1.size
        have c2':=keepC hbx (p:=⟨pb,po+i2*3+2,none⟩) hpb2 c2
        have HBX:=Lib.hid hbx
        clear a0 a1 a2' b0 b1 b2' d0 d1 c2 hbx
        go_wp2_with fail
        go_cut [162] from 131 to 173 (fun v162 wy=>v162=.bool false∧Below wc.heap.size wc wy)
        case first =>
         obtain⟨hy2,hz2,hmo,hl1,hl2⟩:=HAA.out
         have hB0:=(Below.refl wc.heap.size wc).drew
         rcases hy2 with rfl|⟨rfl,hyo,hle1⟩
         ·rcases hz2 with rfl|⟨rfl,hzo,hle2⟩
          ·have hS0:=And.intro e0 (And.intro e2 (And.intro f0 (And.intro f2 c2')))
           clear hl1 hl2 hmo
           refine wp_region_held_drew (S:=fun w'=>w'.cell? ⟨ba,0,none⟩=some (.int .u8 ((26:UInt8).toNat:Int))∧w'.cell? ⟨ba,2,none⟩=some (.string ⟨Wy.toArray⟩)∧w'.cell? ⟨bb,0,none⟩=some (.int .u8 ((26:UInt8).toNat:Int))∧w'.cell? ⟨bb,2,none⟩=some (.string ⟨Wz.toArray⟩)∧w'.cell? ⟨pb,po+i2*3+2,none⟩=some (.string ⟨Wm.toArray⟩)) (by kernel_rfl) ?_ (fun hHeld=>?_)
           ·exact hS0
           refine tk 0 ?_;try simp only [Act.put,ls]
           refine tk 1 ?_;try simp only [Act.put,ls]
           refine tk 2 ?_;try simp only [Act.put,ls]
           refine tk 3 ?_;try simp only [Act.put,ls]
           refine ts 4 ?_;try simp only [Act.put,ls]
           refine ts 5 ?_;try simp only [Act.put,ls]
           refine ts 6 ?_;try simp only [Act.put,ls]
           refine ts 7 ?_;try simp only [Act.put,ls]
           refine ts 8 ?_;try simp only [Act.put,ls]
           refine ts 9 ?_;try simp only [Act.put,ls]
           refine ts 10 ?_;try simp only [Act.put,ls]
           refine ts 11 ?_;try simp only [Act.put,ls]
           refine ts 12 ?_;try simp only [Act.put,ls]
           refine ts 13 ?_;try simp only [Act.put,ls]
           refine tk 14 ?_;try simp only [Act.put,ls]
           refine tk 15 ?_;try simp only [Act.put,ls]
           refine tk 16 ?_;try simp only [Act.put,ls]
           refine tk 17 ?_;try simp only [Act.put,ls]
           refine tk 18 ?_;try simp only [Act.put,ls]
           refine tk 19 ?_;try simp only [Act.put,ls]
           refine ts 20 ?_;try simp only [Act.put,ls]
           refine ts 21 ?_;try simp only [Act.put,ls]
           refine ts 22 ?_;try simp only [Act.put,ls]
           refine ts 23 ?_;try simp only [Act.put,ls]
           refine ts 24 ?_;try simp only [Act.put,ls]
           refine ts 25 ?_;try simp only [Act.put,ls]
           refine ts 26 ?_;try simp only [Act.put,ls]
           refine ts 27 ?_;try simp only [Act.put,ls]
           refine ts 28 ?_;try simp only [Act.put,ls]
           refine ts 29 ?_;try simp only [Act.put,ls]
           refine tk 30 ?_;try simp only [Act.put,ls]
           refine tk 31 ?_;try simp only [Act.put,ls]
           refine wpAnyH_done (by kernel_rfl) ?_ _
           go_wp2_with fail
           go_meet
           exact⟨rfl,hB0⟩
          ·have hS0:=And.intro e0 (And.intro e2 (And.intro f0 (And.intro f2 c2')))
           have d2:decide (levelW Wz≤levelW Wm)=false:=by rw [hle2] at hl2;simp;omega
           clear hl1 hl2 hle2
           refine wp_region_held_drew (S:=fun w'=>w'.cell? ⟨ba,0,none⟩=some (.int .u8 ((26:UInt8).toNat:Int))∧w'.cell? ⟨ba,2,none⟩=some (.string ⟨Wy.toArray⟩)∧w'.cell? ⟨bb,0,none⟩=some (.int .u8 ((37:UInt8).toNat:Int))∧w'.cell? ⟨bb,2,none⟩=some (.string ⟨Wz.toArray⟩)∧w'.cell? ⟨pb,po+i2*3+2,none⟩=some (.string ⟨Wm.toArray⟩)) (by kernel_rfl) ?_ (fun hHeld=>?_)
           ·exact hS0
           refine tk 0 ?_;try simp only [Act.put,ls]
           refine tk 1 ?_;try simp only [Act.put,ls]
           refine tk 2 ?_;try simp only [Act.put,ls]
           refine tk 3 ?_;try simp only [Act.put,ls]
           refine ts 4 ?_;try simp only [Act.put,ls]
           refine ts 5 ?_;try simp only [Act.put,ls]
           refine ts 6 ?_;try simp only [Act.put,ls]
           refine ts 7 ?_;try simp only [Act.put,ls]
           refine ts 8 ?_;try simp only [Act.put,ls]
           refine ts 9 ?_;try simp only [Act.put,ls]
           refine ts 10 ?_;try simp only [Act.put,ls]
           refine ts 11 ?_;try simp only [Act.put,ls]
           refine ts 12 ?_;try simp only [Act.put,ls]
           refine ts 13 ?_;try simp only [Act.put,ls]
           refine tk 14 ?_;try simp only [Act.put,ls]
           refine tk 15 ?_;try simp only [Act.put,ls]
           refine tk 16 ?_;try simp only [Act.put,ls]
           refine tk 17 ?_;try simp only [Act.put,ls]
           refine tk 18 ?_;try simp only [Act.put,ls]
           refine tk 19 ?_;try simp only [Act.put,ls]
           refine tk 20 ?_;try simp only [Act.put,ls]
           refine tk 21 ?_;try simp only [Act.put,ls]
           refine tk 23 ?_;try simp only [Act.put,ls]
           refine tk 24 ?_;try simp only [Act.put,ls]
           refine tk 25 ?_;try simp only [Act.put,ls]
           refine tk 26 ?_;try simp only [Act.put,ls]
           refine tk 27 ?_;try simp only [Act.put,ls]
           refine wpAnyH_ready (rs:=[22]) (by kernel_rfl) (by simp) (AllReadyH.cons (o:=?_) ?_ (fun K hK=>?_) AllReadyH.nil)
           rotate_left
           ·(first|(simp only [List.getElem?_toArray,List.getElem?_cons_succ,List.getElem?_cons_zero];done)|(simp only [List.getElem?_toArray,List.getElem?_cons_succ,List.getElem?_cons_zero];exact rfl))
           go_simp
           (go_at_call 10;refine (level_walk Wz hzo).mono ?_;rintro e w31 ⟨rfl,hl1⟩;have hB1:=bthen hB0 hl1;have hS1:=held5 hl1 hS0)
           go_wp2_with fail
           refine hK.out _ _ ?_ (fun hHeld1=>?_)
           ·exact hS1
           clear hK K
           try simp only [Act.put,List.setIfInBounds_toArray,List.set_cons_zero,List.set_cons_succ]
           refine wpAnyH_ready (rs:=[28]) (by kernel_rfl) (by simp) (AllReadyH.cons (o:=?_) ?_ (fun K hK=>?_) AllReadyH.nil)
           rotate_left
           ·(first|(simp only [List.getElem?_toArray,List.getElem?_cons_succ,List.getElem?_cons_zero];done)|(simp only [List.getElem?_toArray,List.getElem?_cons_succ,List.getElem?_cons_zero];exact rfl))
           go_simp
           (go_at_call 10;refine (level_walk Wm hmo).mono ?_;rintro e w32 ⟨rfl,hl2⟩;have hB2:=bthen hB1 hl2;have hS2:=held5 hl2 hS1)
           go_wp2_with fail
           refine hK.out _ _ ?_ (fun hHeld2=>?_)
           ·exact hS2
           clear hK K
           try simp only [Act.put,List.setIfInBounds_toArray,List.set_cons_zero,List.set_cons_succ]
           refine tk 29 ?_;try simp only [Act.put,ls]
           refine tk 30 ?_;try simp only [Act.put,ls]
           refine tk 31 ?_;try simp only [Act.put,ls]
           refine wpAnyH_done (by kernel_rfl) ?_ _
           go_wp2_with fail
           go_meet
           exact⟨rfl,hB2⟩
         ·have d1:decide (levelW Wy < levelW Wm)=false:=by rw [hle1] at hl1;simp;omega
          clear hl1 hle1
          rcases hz2 with rfl|⟨rfl,hzo,hle2⟩
          ·have hS0:=And.intro e0 (And.intro e2 (And.intro f0 (And.intro f2 c2')))
           clear hl2
           refine wp_region_held_drew (S:=fun w'=>w'.cell? ⟨ba,0,none⟩=some (.int .u8 ((37:UInt8).toNat:Int))∧w'.cell? ⟨ba,2,none⟩=some (.string ⟨Wy.toArray⟩)∧w'.cell? ⟨bb,0,none⟩=some (.int .u8 ((26:UInt8).toNat:Int))∧w'.cell? ⟨bb,2,none⟩=some (.string ⟨Wz.toArray⟩)∧w'.cell? ⟨pb,po+i2*3+2,none⟩=some (.string ⟨Wm.toArray⟩)) (by kernel_rfl) ?_ (fun hHeld=>?_)
           ·exact hS0
           refine tk 0 ?_;try simp only [Act.put,ls]
           refine tk 1 ?_;try simp only [Act.put,ls]
           refine tk 2 ?_;try simp only [Act.put,ls]
           refine tk 3 ?_;try simp only [Act.put,ls]
           refine tk 4 ?_;try simp only [Act.put,ls]
           refine tk 5 ?_;try simp only [Act.put,ls]
           refine tk 7 ?_;try simp only [Act.put,ls]
           refine tk 8 ?_;try simp only [Act.put,ls]
           refine tk 9 ?_;try simp only [Act.put,ls]
           refine tk 10 ?_;try simp only [Act.put,ls]
           refine tk 11 ?_;try simp only [Act.put,ls]
           refine wpAnyH_ready (rs:=[6]) (by kernel_rfl) (by simp) (AllReadyH.cons (o:=?_) ?_ (fun K hK=>?_) AllReadyH.nil)
           rotate_left
           ·(first|(simp only [List.getElem?_toArray,List.getElem?_cons_succ,List.getElem?_cons_zero];done)|(simp only [List.getElem?_toArray,List.getElem?_cons_succ,List.getElem?_cons_zero];exact rfl))
           go_simp
           (go_at_call 10;refine (level_walk Wy hyo).mono ?_;rintro e w31 ⟨rfl,hl1⟩;have hB1:=bthen hB0 hl1;have hS1:=held5 hl1 hS0)
           go_wp2_with fail
           refine hK.out _ _ ?_ (fun hHeld1=>?_)
           ·exact hS1
           clear hK K
           try simp only [Act.put,List.setIfInBounds_toArray,List.set_cons_zero,List.set_cons_succ]
           refine wpAnyH_ready (rs:=[12]) (by kernel_rfl) (by simp) (AllReadyH.cons (o:=?_) ?_ (fun K hK=>?_) AllReadyH.nil)
           rotate_left
           ·(first|(simp only [List.getElem?_toArray,List.getElem?_cons_succ,List.getElem?_cons_zero];done)|(simp only [List.getElem?_toArray,List.getElem?_cons_succ,List.getElem?_cons_zero];exact rfl))
           go_simp
           (go_at_call 10;refine (level_walk Wm hmo).mono ?_;rintro e w32 ⟨rfl,hl2⟩;have hB2:=bthen hB1 hl2;have hS2:=held5 hl2 hS1)
           go_wp2_with fail
           refine hK.out _ _ ?_ (fun hHeld2=>?_)
           ·exact hS2
           clear hK K
           try simp only [Act.put,List.setIfInBounds_toArray,List.set_cons_zero,List.set_cons_succ]
           refine tk 13 ?_;try simp only [Act.put,ls]
           refine tk 14 ?_;try simp only [Act.put,ls]
           refine tk 15 ?_;try simp only [Act.put,ls]
           refine tk 16 ?_;try simp only [Act.put,ls]
           refine tk 17 ?_;try simp only [Act.put,ls]
           refine tk 18 ?_;try simp only [Act.put,ls]
           refine tk 19 ?_;try simp only [Act.put,ls]
           refine ts 20 ?_;try simp only [Act.put,ls]
           refine ts 21 ?_;try simp only [Act.put,ls]
           refine ts 22 ?_;try simp only [Act.put,ls]
           refine ts 23 ?_;try simp only [Act.put,ls]
           refine ts 24 ?_;try simp only [Act.put,ls]
           refine ts 25 ?_;try simp only [Act.put,ls]
           refine ts 26 ?_;try simp only [Act.put,ls]
           refine ts 27 ?_;try simp only [Act.put,ls]
           refine ts 28 ?_;try simp only [Act.put,ls]
           refine ts 29 ?_;try simp only [Act.put,ls]
           refine tk 30 ?_;try simp only [Act.put,ls]
           refine tk 31 ?_;try simp only [Act.put,ls]
           refine wpAnyH_done (by kernel_rfl) ?_ _
           go_wp2_with fail
           go_meet
           exact⟨rfl,hB2⟩
          ·have hS0:=And.intro e0 (And.intro e2 (And.intro f0 (And.intro f2 c2')))
           have d2:decide (levelW Wz≤levelW Wm)=false:=by rw [hle2] at hl2;simp;omega
           clear hl2 hle2
           refine wp_region_held_drew (S:=fun w'=>w'.cell? ⟨ba,0,none⟩=some (.int .u8 ((37:UInt8).toNat:Int))∧w'.cell? ⟨ba,2,none⟩=some (.string ⟨Wy.toArray⟩)∧w'.cell? ⟨bb,0,none⟩=some (.int .u8 ((37:UInt8).toNat:Int))∧w'.cell? ⟨bb,2,none⟩=some (.string ⟨Wz.toArray⟩)∧w'.cell? ⟨pb,po+i2*3+2,none⟩=some (.string ⟨Wm.toArray⟩)) (by kernel_rfl) ?_ (fun hHeld=>?_)
           ·exact hS0
           refine tk 0 ?_;try simp only [Act.put,ls]
           refine tk 1 ?_;try simp only [Act.put,ls]
           refine tk 2 ?_;try simp only [Act.put,ls]
           refine tk 3 ?_;try simp only [Act.put,ls]
           refine tk 4 ?_;try simp only [Act.put,ls]
           refine tk 5 ?_;try simp only [Act.put,ls]
           refine tk 7 ?_;try simp only [Act.put,ls]
           refine tk 8 ?_;try simp only [Act.put,ls]
           refine tk 9 ?_;try simp only [Act.put,ls]
           refine tk 10 ?_;try simp only [Act.put,ls]
           refine tk 11 ?_;try simp only [Act.put,ls]
           refine wpAnyH_ready (rs:=[6]) (by kernel_rfl) (by simp) (AllReadyH.cons (o:=?_) ?_ (fun K hK=>?_) AllReadyH.nil)
           rotate_left
           ·(first|(simp only [List.getElem?_toArray,List.getElem?_cons_succ,List.getElem?_cons_zero];done)|(simp only [List.getElem?_toArray,List.getElem?_cons_succ,List.getElem?_cons_zero];exact rfl))
           go_simp
           (go_at_call 10;refine (level_walk Wy hyo).mono ?_;rintro e w31 ⟨rfl,hl1⟩;have hB1:=bthen hB0 hl1;have hS1:=held5 hl1 hS0)
           go_wp2_with fail
           refine hK.out _ _ ?_ (fun hHeld1=>?_)
           ·exact hS1
           clear hK K
           try simp only [Act.put,List.setIfInBounds_toArray,List.set_cons_zero,List.set_cons_succ]
           refine wpAnyH_ready (rs:=[12]) (by kernel_rfl) (by simp) (AllReadyH.cons (o:=?_) ?_ (fun K hK=>?_) AllReadyH.nil)
           rotate_left
           ·(first|(simp only [List.getElem?_toArray,List.getElem?_cons_succ,List.getElem?_cons_zero];done)|(simp only [List.getElem?_toArray,List.getElem?_cons_succ,List.getElem?_cons_zero];exact rfl))
           go_simp
           (go_at_call 10;refine (level_walk Wm hmo).mono ?_;rintro e w32 ⟨rfl,hl2⟩;have hB2:=bthen hB1 hl2;have hS2:=held5 hl2 hS1)
           go_wp2_with fail
           refine hK.out _ _ ?_ (fun hHeld2=>?_)
           ·exact hS2
           clear hK K
           try simp only [Act.put,List.setIfInBounds_toArray,List.set_cons_zero,List.set_cons_succ]
           refine tk 13 ?_;try simp only [Act.put,ls]
           refine tk 14 ?_;try simp only [Act.put,ls]
           refine tk 15 ?_;try simp only [Act.put,ls]
           refine tk 16 ?_;try simp only [Act.put,ls]
           refine tk 17 ?_;try simp only [Act.put,ls]
           refine tk 18 ?_;try simp only [Act.put,ls]
           refine tk 19 ?_;try simp only [Act.put,ls]
           refine tk 20 ?_;try simp only [Act.put,ls]
           refine tk 21 ?_;try simp only [Act.put,ls]
           refine tk 23 ?_;try simp only [Act.put,ls]
           refine tk 24 ?_;try simp only [Act.put,ls]
           refine tk 25 ?_;try simp only [Act.put,ls]
           refine tk 26 ?_;try simp only [Act.put,ls]
           refine tk 27 ?_;try simp only [Act.put,ls]
           refine wpAnyH_ready (rs:=[22]) (by kernel_rfl) (by simp) (AllReadyH.cons (o:=?_) ?_ (fun K hK=>?_) AllReadyH.nil)
           rotate_left
           ·(first|(simp only [List.getElem?_toArray,List.getElem?_cons_succ,List.getElem?_cons_zero];done)|(simp only [List.getElem?_toArray,List.getElem?_cons_succ,List.getElem?_cons_zero];exact rfl))
           go_simp
           (go_at_call 10;refine (level_walk Wz hzo).mono ?_;rintro e w33 ⟨rfl,hl3⟩;have hB3:=bthen hB2 hl3;have hS3:=held5 hl3 hS2)
           go_wp2_with fail
           refine hK.out _ _ ?_ (fun hHeld3=>?_)
           ·exact hS3
           clear hK K
           try simp only [Act.put,List.setIfInBounds_toArray,List.set_cons_zero,List.set_cons_succ]
           refine wpAnyH_ready (rs:=[28]) (by kernel_rfl) (by simp) (AllReadyH.cons (o:=?_) ?_ (fun K hK=>?_) AllReadyH.nil)
           rotate_left
           ·(first|(simp only [List.getElem?_toArray,List.getElem?_cons_succ,List.getElem?_cons_zero];done)|(simp only [List.getElem?_toArray,List.getElem?_cons_succ,List.getElem?_cons_zero];exact rfl))
           go_simp
           (go_at_call 10;refine (level_walk Wm hmo).mono ?_;rintro e w34 ⟨rfl,hl4⟩;have hB4:=bthen hB3 hl4;have hS4:=held5 hl4 hS3)
           go_wp2_with fail
           refine hK.out _ _ ?_ (fun hHeld4=>?_)
           ·exact hS4
           clear hK K
           try simp only [Act.put,List.setIfInBounds_toArray,List.set_cons_zero,List.set_cons_succ]
           refine tk 29 ?_;try simp only [Act.put,ls]
           refine tk 30 ?_;try simp only [Act.put,ls]
           refine tk 31 ?_;try simp only [Act.put,ls]
           refine wpAnyH_done (by kernel_rfl) ?_ _
           go_wp2_with fail
           go_meet
           exact⟨rfl,hB4⟩
        case rest =>
         obtain⟨rfl,hbw⟩:=hcut
         have HBW:=Lib.hid (bthen HBX.out hbw)
         obtain⟨hk,hbk,hg20,hg21⟩:=HK.out
         obtain⟨hpr,hown,hbl,hm,hiz⟩:=HST3.out
         obtain⟨_,ek,_,_,d0⟩:=cell_nat hk (j:=0) (x:=iy) rfl (by omega)
         cases ek
         obtain⟨_,ek,_,_,d1⟩:=cell_nat hk (j:=1) (x:=iz) rfl (by omega)
         cases ek
         replace d0:=keepC HBW.out (p:=⟨g2,0,none⟩) hg21 d0
         replace d1:=keepC HBW.out (p:=⟨g2,1,none⟩) hg21 d1
         have hS0:=And.intro d0 d1
         have hwm:IntKind.i64.wrap (-1 - (i2:Int))=-1 - (i2:Int):=by have:=HR3.out.2.2;have:=HM.out;simp [IntKind.wrap,IntKind.bits,IntKind.signed];omega
         have hown3:=own_fr hown (Fr.below (X:=[]) (bthen hbk HBW.out)) (by simp)
         have hb3:=bthen hbl (bthen hbk HBW.out)
         have hgl:=(hown.lt g rfl).1
         have hne:g2≠g:=by have:=(hown.lt g rfl).2;omega
         have hb3s:=hb3.size
         have hal:=fun o=>((Below.refl wc.heap.size wc).alloc (Nat.le_refl _) o).drew
         have hg2c:g2 < wc.heap.size:=Nat.lt_of_lt_of_le hg21 HBW.out.size
         have hHS:=Lib.hid (And.intro hpr hm)
         obtain⟨i0,hi0,hz0,hz1,hz2⟩:=info_parts Grd.Tryz.infoI3
         clear hpr hk hbk hown hbl hiz hbw e0 e2 f0 f2 c2' c0 hg20 hg21 hba hbb hpb2 hm
         go_wp2_with fail
         refine wp_region_held_drew (S:=fun w'=>w'.cell? ⟨g2,0,none⟩=some (.int .i64 (iy:Int))∧w'.cell? ⟨g2,1,none⟩=some (.int .i64 (iz:Int))) (by kernel_rfl) ?_ (fun hHeld=>?_)
         ·exact hS0
         refine tk 0 ?_;try simp only [Act.put,ls]
         refine tk 1 ?_;try simp only [Act.put,ls]
         refine tk 2 ?_;try simp only [Act.put,ls]
         refine tk 3 ?_;try simp only [Act.put,ls]
         refine tk 4 ?_;try simp only [Act.put,ls]
         refine tk 5 ?_;try simp only [Act.put,ls]
         refine tk 6 ?_;try simp only [Act.put,ls]
         refine tk 7 ?_;try simp only [Act.put,ls]
         refine tk 8 ?_;try simp only [Act.put,ls]
         refine wpAnyH_ready (rs:=[9]) (by kernel_rfl) (by simp) (AllReadyH.cons (o:=?_) ?_ (fun K hK=>?_) AllReadyH.nil)
         rotate_left
         ·(first|(simp only [List.getElem?_toArray,List.getElem?_cons_succ,List.getElem?_cons_zero];done)|(simp only [List.getElem?_toArray,List.getElem?_cons_succ,List.getElem?_cons_zero];exact rfl))
         go_simp
         go_wp2_with fail
         refine hK.out _ _ ?_ (fun hHeld9=>?_)
         ·exact⟨keepC (hal _) (p:=⟨g2,0,none⟩) hg2c d0,keepC (hal _) (p:=⟨g2,1,none⟩) hg2c d1⟩
         clear hK K
         try simp only [Act.put,List.setIfInBounds_toArray,List.set_cons_zero,List.set_cons_succ]
         refine wpAnyH_ready (rs:=[10]) (by kernel_rfl) (by simp) (AllReadyH.cons (o:=?_) ?_ (fun K hK=>?_) AllReadyH.nil)
         rotate_left
         ·(first|(simp only [List.getElem?_toArray,List.getElem?_cons_succ,List.getElem?_cons_zero];done)|(simp only [List.getElem?_toArray,List.getElem?_cons_succ,List.getElem?_cons_zero];exact rfl))
         refine step_append_lies _ (by rfl) _ _ _ (by rfl) w11.heap.size 3 i0 _ 1 8 Tryz.underlying32 hi0 hz0 hz1 hz2 rfl (by decide) (.slice (some ⟨g,0,none⟩) m vc) m (st2.reverse.map (Value.int .i64 ·)) (by rfl) ((hown3.alloc _).drew) ⟨wc.heap.size,0,none⟩ 3 3 [.int .i64 (iz:Int),.int .i64 (-1 - (i2:Int)),.int .i64 (iy:Int)] (by rfl) (by rfl) (World.news_of_block (cs:=#[.int .i64 (iz:Int),.int .i64 (-1 - (i2:Int)),.int .i64 (iy:Int)]) (t:=3) (fr:=(0,0)) (heap_alloc_new wc _)) (by simp [Value.oneCell']) (by omega) (by unfold maxLen;omega) (by omega) (by simp;omega) (wc.heap.size+1) (by simp) ?_
         intro gg cap2 w2 hown2 hgrow2 hat2 hlt2
         have d0':=(hgrow2.cell_far ⟨g2,0,none⟩ (by simp;omega) (by simp [Value.ownBlock];omega)).trans (keepC (hal (Obj.cells #[.int .i64 (iz:Int),.int .i64 (-1 - (i2:Int)),.int .i64 (iy:Int)] 3)) (p:=⟨g2,0,none⟩) hg2c d0)
         have d1':=(hgrow2.cell_far ⟨g2,1,none⟩ (by simp;omega) (by simp [Value.ownBlock];omega)).trans (keepC (hal (Obj.cells #[.int .i64 (iz:Int),.int .i64 (-1 - (i2:Int)),.int .i64 (iy:Int)] 3)) (p:=⟨g2,1,none⟩) hg2c d1)
         have HN:=Lib.hid (And.intro hown2 ((hb3.alloc hb3s _).drew.grown hgrow2 (by simp;omega) (fun k h=>by cases h;exact hgl)))
         clear hgrow2 hown2 hown3 hb3 hal
         refine hK.out _ _ ?_ (fun hHeld10=>?_)
         ·exact⟨d0',d1'⟩
         clear hK K
         try simp only [Act.put,List.setIfInBounds_toArray,List.set_cons_zero,List.set_cons_succ]
         refine tk 11 ?_;try simp only [Act.put,ls]
         refine wpAnyH_done (by kernel_rfl) ?_ _
         go_wp2_with fail
         go_roundg (2*cnt y+(1+(2*cnt z+n2)))
         case measure=>simp only [cnt,cntL];omega
         case rel =>
          obtain⟨k1,k2⟩:=HN.out
          refine⟨(iy:Int)::(-1 - (i2:Int))::(iz:Int)::st2,pre,_,HS5.out,hHS.out.1,rfl,?_,k2,by have:=HQK.out;simp only [cnt,cntL] at this;omega⟩
          rw [show ((iy:Int)::(-1 - (i2:Int))::(iz:Int)::st2).length=m+3 by rw [hHS.out.2];rfl]
          simpa using k1
     | op i2 m2 f2 t2 ks2 st2 tx n2 h1 h2 =>
      obtain⟨m,hm⟩:∃ m,m=st2.length:=⟨_,rfl⟩
      rw [List.length_cons,← hm] at hst
      obtain⟨g,vc,rfl,hg0,hg1,hcg,hown,hvc⟩:=stk_pop hst hm
      have hlt:=h1.lt
      have hcp:=cnt_pos (.mk 37 m2 f2 t2 ks2)
      rcases (parts_at HR3.out.1 rfl).later (bthen HB11.out hbl) with h0|⟨pb,po,rfl,hpb,hcl⟩
      ·have h0:(parts ⟨s,l,[]⟩ t).length=0:=by simpa using congrArg List.length h0
       omega
      obtain⟨_,_,c2⟩:=pt_cells h1 (by decide) hcl
      have hwl:pre.length+((tkx ⟨s,l,[]⟩ m2).length+tx.length)=s.length+1:=by
       have:=congrArg List.length hpr
       simpa using this
      have htk:tkx ⟨s,l,[]⟩ m2=32::Env.text ⟨s,l,[]⟩ (m2:Int):=rfl
      rw [htk] at hpr hwl
      generalize Env.text ⟨s,l,[]⟩ (m2:Int)=W at *
      rw [List.length_cons] at hwl
      have hip:(i2:Int) < (pn3:Int):=by have:=HR3.out.2.1;omega
      have hi0:0≤(i2:Int):=by omega
      obtain⟨z,hz⟩:∃ z,z=-1 - (i2:Int):=⟨_,rfl⟩
      rw [← hz] at hcg
      have hpn:=HR3.out.2.2
      have hM40:M≤40:=by have:=HM.out;omega
      have hw1:IntKind.i64.wrap (-1 - z)=(i2:Int):=by rw [hz];simp [IntKind.wrap,IntKind.bits,IntKind.signed];omega
      have hz0:decide (z < 0)=true:=by simp;omega
      obtain⟨N,hN⟩:∃ N,N=m+1:=⟨_,rfl⟩
      have hm40:m≤1000000:=by have:=h2.len;omega
      rw [← hN]
      have hw2:IntKind.i64.wrap ((N:Int) - 1)=(m:Int):=by rw [hN];simp [IntKind.wrap,IntKind.bits,IntKind.signed];omega
      have hN0:decide ((0:Int) < (N:Int))=true:=by simp;omega
      have hmN:(m:Int) < (N:Int):=by omega
      have hm0:0≤(m:Int):=by omega
      have hmc:(m:Int)≤(vc:Int):=by omega
      have hpl:pre.length≤65537:=by omega
      have hWl:W.length≤65537:=by omega
      have HST3:=Lib.hid (And.intro h2 (And.intro hpr (And.intro hown (And.intro hbl hm))))
      have HQK:=Lib.hid hq1000
      clear h1 h2 hpr hown hbl hst hlt hcp hcl hwl htk hz hN hpn hm hg0 hg1 hvc hq1000
      go_wp2_with fail
      go_roundg n2
      case measure=>omega
      case rel =>
       obtain⟨k1,k2,k3,k4,k5⟩:=HST3.out
       exact⟨st2,pre++(32::W),tx,k1,by rw [List.append_assoc];exact k2,by simp,by rw [← k5];exact k3,k4,by have:=HQK.out;omega⟩
end
end Go.Proofs.YtegbdigfbklkaaaGreatDoor
