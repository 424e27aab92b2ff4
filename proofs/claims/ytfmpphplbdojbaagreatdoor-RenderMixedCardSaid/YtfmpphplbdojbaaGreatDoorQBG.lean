import Derived.OwnWalk
import Derived.Test.YtfmpphplbdojbaaGreatDoorQBF
namespace Go.Proofs.YtfmpphplbdojbaaGreatDoor
set_option linter.all false
set_option maxHeartbeats 40000000
set_option maxRecDepth 100000
section
open Go.RowKit
variable {w:World}
def XK (c:UInt8):UInt8:=if c=40 then 41 else if c=91 then 93 else if c=123 then 125 else 0
theorem BJ (c:UInt8):Calls Tryz.prog 101 #[.int .u8 (c.toNat:Int)] w (fun e w'=>e=.returned (.int .u8 ((XK c).toNat:Int))/\w'=w):=by
  have hne:∀ (y:UInt8),¬ c=y->((c.toNat:Int)==(y.toNat:Int))=false:=fun y h=>by
    rw [beq_eq_false_iff_ne];intro e;exact h (Av.1 Cf)
  by_cases h1:c=40
  · subst h1
    go_enter Tryz.func101,Tryz.ntmps101;go_wp2_with fail;go_ret;exact⟨rfl,rfl⟩
  by_cases h2:c=91
  · subst h2
    clear h1;go_enter Tryz.func101,Tryz.ntmps101;go_wp2_with fail;go_ret;exact⟨rfl,rfl⟩
  by_cases h3:c=123
  · subst h3
    clear h1 h2;go_enter Tryz.func101,Tryz.ntmps101;go_wp2_with fail;go_ret;exact⟨rfl,rfl⟩
  have e:XK c=0:=by unfold XK;rw [if_neg h1,if_neg h2,if_neg h3]
  rw [e];have d1:((c.toNat:Int)==40)=false:=hne 40 h1;have d2:((c.toNat:Int)==91)=false:=hne 91 h2;have d3:((c.toNat:Int)==123)=false:=hne 123 h3;clear h1 h2 h3 hne e;go_enter Tryz.func101,Tryz.ntmps101;go_wp2_with fail;go_ret;exact⟨rfl,rfl⟩
inductive DO where
  | bad (err a:Nat):DO
  | ok (l:List Tk) (p:List Int) (most:Nat):DO
structure vH where
  pair:List Int
  stk:List Nat
  most:Nat
def sG (s:List UInt8) (k:Nat):UInt8:=s[k]?.getD 0
def vQ (l:List Tk) (i:Nat):Nat:=((l[i]?).getD ⟨0,0,0⟩).fr
def vH.top (st:vH):Nat:=st.stk.getLast?.getD 0
def rF (s:List UInt8) (l:List Tk):List Tk->Nat->vH->DO
  | [],_,st=>if st.stk=[] then .ok l st.pair st.most else .bad 5 (vQ l st.top)
  | t::r,i,st =>
    if t.kind≠8∨t.to - t.fr≠1 then rF s l r (i+1) ⟨st.pair.set i (-1),st.stk,st.most⟩
    else if XK (sG s t.fr)≠0 then
      (if st.stk.length=100 then .bad 6 t.fr else rF s l r (i+1) ⟨st.pair.set i (-1),st.stk++[i],max st.most (st.stk.length+1)⟩)
    else if sG s t.fr=41∨sG s t.fr=93∨sG s t.fr=125 then
      (if st.stk=[]∨XK (sG s (vQ l st.top))≠sG s t.fr then .bad 5 t.fr
       else rF s l r (i+1) ⟨((st.pair.set i (-1)).set i (st.top:Int)).set st.top (i:Int),st.stk.dropLast,st.most⟩)
    else rF s l r (i+1) ⟨st.pair.set i (-1),st.stk,st.most⟩
def FH (s:List UInt8):DO:=match wH s with
  | .bad e a=>.bad e a
  | .ok l=>rF s l l 0 ⟨List.replicate l.length 0,[],0⟩
def fJ (r:DO) (w:World) (e:Ending) (w':World):Prop :=
  match r with
  | .bad err a=>e=.returned (.tuple #[.slice none 0 0,.slice none 0 0,.int .i64 0,qA err a])/\Below w.heap.size w w'
  | .ok l p m=>∃ tv pv,e=.returned (.tuple #[tv,pv,.int .i64 m,qA 0 0])/\w'.ownsRow w.heap.size 63 3 tv l.length (BF l)/\w'.ownsRow w.heap.size 3 1 pv p.length (nG p)/\Below w.heap.size w w'
theorem Tryz.infoArr:(Tryz.prog.info? 138).map (fun i=>(i.zero,i.size))=some (some (.agg (Array.replicate 100 (.int .i64 0))),100):=Ci
theorem Tryz.infoInt:(Tryz.prog.info? 3).map (fun i=>(i.zero,i.size,i.bytes))=some (some (.int .i64 0),1,8):=Ci
theorem Tryz.underInts:Tryz.prog.underlying 55=some (.slice 3):=Ci
theorem yN {s:List UInt8}{e a:Nat} (h:wH s=.bad e a):(e=2∨e=3∨e=4)/\a<=s.length:=by
  unfold wH at h;split at h
  · rename_i hA
    cases h;exact eQ hA
  · cases h
def iY (s:List UInt8) (t:Tk):Prop:=t.fr<=t.to/\t.to<=s.length/\(t.kind=8->t.fr < t.to)
theorem jQ (s:List UInt8):∀ (l:List Tk) (st:Option Nat × List Tk) (i:Nat),(∀ t∈l,t.fr < t.to/\t.to<=s.length)->(∀ t∈st.2,iY s t)->(∀ n,st.1=some n->n<=s.length)->st.2.length+(if st.1.isSome then 1 else 0)<=2*i ->
    (∀ t∈QD (jG s l st),iY s t)/\(QD (jG s l st)).length<=2*(i+l.length)
  | [],st,i,h,h1,h2,h3=>by
    obtain⟨E,out⟩:=st;rw [jG];cases E with
    | none=>exact⟨h1,by simp [QD] at h3 ⊢;omega⟩
    | some n =>
      refine⟨fun t ht=>?_,by simp [QD] at h3 ⊢;omega⟩;simp only [QD,List.mem_append,List.mem_singleton] at ht;rcases ht with ht|rfl
      · exact h1 t ht
      · exact⟨C' _,h2 n rfl,fun h=>C4⟩
  | t::r,st,i,h,h1,h2,h3=>by
    obtain⟨E,out⟩:=st;rw [jG];have ht:=h t (List.mem_cons_self ..);have hlen:=uJ s t (E,out) i h3;have:=jQ s r (GE s t (E,out)) (i+1) (fun u hu=>h u (List.mem_cons_of_mem _ hu)) (fun u hu=>?_) (fun n hn=>?_) hlen
    · exact⟨this.1,by have:=this.2;simp only [Ab];omega⟩
    · unfold GE at hu
      split at hu
      · split at hu
        · cases E with
          | none=>exact h1 u hu
          | some n =>
            simp only [QD,List.mem_append,List.mem_singleton] at hu;rcases hu with hu|rfl
            · exact h1 u hu
            · exact⟨C' _,h2 n rfl,fun h=>C4⟩
        · exact h1 u hu
      · simp only [List.mem_append,List.mem_singleton] at hu
        rcases hu with hu|rfl
        · exact h1 u hu
        · exact⟨Cf,ht.2,fun _=>ht.1⟩
    · unfold GE at hn
      split at hn
      · split at hn
        · cases hn
        · exact h2 n hn
      · simp only at hn
        split at hn
        · cases hn;exact ht.2
        · cases hn
theorem gJ {s:List UInt8}{l:List Tk} (h:wH s=.ok l):(∀ t∈l,iY s t)/\l.length<=131072/\s.length<=65536:=by
  unfold wH at h;split at h
  · cases h
  · rename_i r hA
    obtain⟨h1,h2,h3⟩:=lS hA;cases h;obtain⟨h4,h5⟩:=jQ s r (none,[]) 0 h1 (fun t ht=>by cases ht) (fun n hn=>by cases hn) (C' _);exact⟨h4,Cf,h3⟩
end
