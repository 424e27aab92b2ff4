import Derived.Test.YtfmpphplbdojbaaGreatDoorQBR
import Derived.Test.YtfmpphplbdojbaaGreatDoorQBQ
import Derived.Test.YtfmpphplbdojbaaGreatDoorQAZ
import Derived.Handy
import Derived.Test.YtfmpphplbdojbaaGreatDoorQBB
import Derived.Test.YtfmpphplbdojbaaGreatDoorQBE
namespace Go.Proofs.YtfmpphplbdojbaaGreatDoor
open Lib(hid)
set_option linter.all false
set_option maxHeartbeats 40000000
set_option maxRecDepth 100000
namespace Ck
open Go.RowKit
variable {w w':World}
theorem mQ7 (c:UInt8):Calls Tryz.prog 235 #[.int .i64 c.toNat] w fun e w'=>e=.returned (.int .i64 (OH c.toNat))/\w'=w:=by
  obtain⟨B,hB⟩:∃ B,B=OH c.toNat:=⟨_,rfl⟩;rw [<- hB];have HV:=hid hB;clear hB;have hc:=c.toNat_lt;generalize c.toNat=n at *;go_enter Tryz.func235,Tryz.ntmps235;go_wp2_with fail
  go_loop [5] (fun u=>∃ i:Nat,i<=16/\u=.int .i64 (i:Int)/\(OH n < 0∨(i:Int)<=OH n)) (fun u=>16 - (intOf u).toNat)
  case atStart=>exact⟨0,Cf,rfl,by unfold OH;omega⟩
  case round =>
    obtain⟨i,hi,rfl,hv⟩:=hrel;by_cases hlt:i < 16
    · rcases (by omega:i=0∨i=1∨i=2∨i=3∨i=4∨i=5∨i=6∨i=7∨i=8∨i=9∨i=10∨i=11∨i=12∨i=13∨i=14∨i=15) with rfl|rfl|rfl|rfl|rfl|rfl|rfl|rfl|rfl|rfl|rfl|rfl|rfl|rfl|rfl|rfl
      all_goals
        go_wp2_with fail
        all_goals first
          | (go_ret;exact⟨Num.dE (by have h:=HV.out;unfold OH at h;simp_all;omega),rfl⟩)
          | (go_round
             case rel=>exact⟨_,Ch,rfl,by unfold OH at hv ⊢;simp_all;omega⟩
             case measure=>simp [intOf])
    · have:i=16:=by omega
      subst this;have hB:B=-1:=by rw [HV.out];unfold OH at hv ⊢;omega
      go_wp2_with fail;go_ret;exact⟨Num.dE (by first|rfl|rw [hB]),rfl⟩
def JQ4 (l:List UInt8) (base:Int):Nat->Nat->Int->Option Int
  | 0,_,n=>some n
  | f+1,k,n=>if nD l k < 0∨base<=nD l k then none else JQ4 l base f (k+1) (n*base+nD l k)
theorem OQ5 {l:List UInt8}{base:Int} (hb:base<=16):∀ (f k:Nat) (n:Int),l.length < k+f->JQ4 l base f k n=none∨f=0
  | 0,_,_,_=>.inr rfl
  | f+1,k,n,h=>by
    left
    unfold JQ4;by_cases hd:nD l k < 0∨base<=nD l k
    · rw [if_pos hd]
    · rw [if_neg hd]
      have hk:k < l.length:=by
        rcases Nat.lt_or_ge k l.length with x|x
        · exact x
        · exact absurd (show nD l k < 0∨base<=nD l k by right;unfold nD;rw [if_neg Cf];omega) hd
      rcases OQ5 (l:=l) hb f (k+1) (n*base+nD l k) Cf with h1|h1
      · exact h1
      · subst h1;omega
theorem OQ4 {l:List UInt8}{base:Int} (hb0:0<=base) (hb:base<=16):∀ (f k:Nat) (n x:Int) (i:Nat),0<=n->n < 16 ^ i->JQ4 l base f k n=some x->0<=x/\x < 16 ^ (i+f)
  | 0,_,n,x,i,h0,h1,h=>by cases h;exact⟨h0,h1⟩
  | f+1,k,n,x,i,h0,h1,h=>by
    unfold JQ4 at h;split at h
    · cases h
    · rename_i hd
      have e:i+(f+1)=i+1+f:=Cf
      rw [e];have hm:n*base<=n*16:=Int.mul_le_mul_of_nonneg_left hb h0;have hm0:0<=n*base:=Int.mul_nonneg h0 hb0;refine OQ4 hb0 hb f _ _ x (i+1) Cf ?_ h;rw [Int.pow_succ];omega
theorem UQ5 {l:List UInt8}{base:Int}:∀ (f:Nat) (k:Nat) (o:List UInt8) (n:Int),(JQ4 l base f k n=none->(TA l base f ⟨k,o,false⟩ n).2.bad=true/\(TA l base f ⟨k,o,false⟩ n).1=0)/\(∀ x,JQ4 l base f k n=some x->TA l base f ⟨k,o,false⟩ n=(x,⟨k+f,o,false⟩))
  | 0,k,o,n=>⟨fun h=>C4,fun x h=>by cases h;rfl⟩
  | f+1,k,o,n=>by
    unfold JQ4 TA;by_cases hd:nD l k < 0∨base<=nD l k
    · rw [if_pos hd,if_pos hd]
      exact⟨fun _=>⟨rfl,rfl⟩,fun x h=>C4⟩
    · rw [if_neg hd,if_neg hd]
      obtain⟨h1,h2⟩:=UQ5 (l:=l) (base:=base) f (k+1) o (n*base+nD l k);exact⟨h1,fun x h=>by rw [h2 x h];simp;omega⟩
def xQ6 (o:Option Int):Int:=match o with|none=>-1|some x=>x
theorem QQ4 (l:List UInt8) (p cnt:Nat) (base:Int) (hl:l.length<=1048576) (hp:p<=1048580) (hc:cnt=2∨cnt=3∨cnt=4∨cnt=8) (hb:base=8∨base=16) :
    Calls Tryz.prog 205 #[.string ⟨l.toArray⟩,.int .i64 (p:Int),.int .i64 (cnt:Int),.int .i64 base] w fun e w'=>e=.returned (.int .i64 (xQ6 (JQ4 l base cnt p 0)))/\w'=w:=by
  obtain⟨T,hT⟩:∃ T,T=JQ4 l base cnt p 0:=⟨_,rfl⟩;rw [<- hT];by_cases hsh:l.length < p+cnt
  · have hT:T=none:=by
      rw [hT];rcases OQ5 (l:=l) (base:=base) Cf cnt p 0 hsh with h|h
      · exact h
      · omega
    rw [hT];have i0:(l.length:Int) - (p:Int) < (cnt:Int):=Cf
    clear hc hb;go_enter Tryz.func205,Tryz.ntmps205;go_wp2_with fail;go_ret;exact⟨rfl,rfl⟩
  · have i0:¬ (l.length:Int) - (p:Int) < (cnt:Int):=by omega
    have HT:=hid hT;have HS:=hid hsh;have HC:=hid hc;have HB:=hid hb;have hc8:cnt<=8:=Cf
    have hb16:0<=base/\base<=16:=Cf
    clear hT hsh hc hb;go_enter Tryz.func205,Tryz.ntmps205;go_wp2_with fail
    go_loop [9,10] (fun u9 u10=>∃ (i:Nat) (n:Int),u9=.int .i64 n/\u10=.int .i64 (i:Int)/\i<=cnt/\JQ4 l base (cnt - i) (p+i) n=T/\0<=n/\n < 16 ^ i) (fun _ u=>cnt - (intOf u).toNat)
    case atStart=>exact⟨0,0,rfl,rfl,Cf,HT.out.symm,Cf,Ch⟩
    case round =>
      obtain⟨i,n,rfl,rfl,hi,hu,hn0,hn1⟩:=hrel;have HU:=hid hu;have HN:=hid hn1;have hn2:n < 4294967296:=by
        have:i=0∨i=1∨i=2∨i=3∨i=4∨i=5∨i=6∨i=7∨i=8:=Cf
        rcases this with rfl|rfl|rfl|rfl|rfl|rfl|rfl|rfl|rfl <;> (simp at hn1;omega)
      clear hu hn1;by_cases hlt:i < cnt
      · obtain⟨m,hm⟩:∃ m,m=p+i:=⟨_,rfl⟩
        have HM:=hid hm;have hml:m < l.length:=by have:=HS.out;omega
        have hq:nD l m=OH (l[m]).toNat:=by unfold nD Num.bat;rw [if_pos hml,M' hml];rfl
        have HQ:=hid hq;have j1:(p:Int)+(i:Int)=(m:Int):=Cf
        have j2:(0:Int)<=(m:Int):=Cf
        have j3:(m:Int) < (l.length:Int):=Cf
        have j0:(i:Int) < (cnt:Int):=Cf
        have HD:Hid (JQ4 l base (cnt - i) m n=if nD l m < 0∨base<=nD l m then none else JQ4 l base (cnt - (i+1)) (p+(i+1)) (n*base+nD l m)):=hid (by
          obtain⟨g,hg⟩:∃ g,cnt - i=g+1:=⟨cnt - i - 1,Cf⟩;have e1:cnt - (i+1)=g:=Cf
          have e2:p+(i+1)=m+1:=Cf
          rw [hg,e1,e2]
          rfl)
        have hw0:wrap64 (l[m].toNat:Int)=(l[m].toNat:Int):=by have:=l[m].toNat_lt;unfold wrap64;omega
        have hU2:=HU.out;rw [<- hm] at hU2;have HU2:=hid hU2;clear hm hq hU2;go_wp2_with fail;refine (mQ7 l[m]).mono ?_;rintro e w2 ⟨rfl,rfl⟩;clear hw0;have hd:=XR (l[m]).toNat;have hq:=HQ.out;generalize OH (l[m]).toNat=d at *;by_cases h0:d < 0
        · have hT:T=none:=by rw [<- HU2.out,HD.out,hq,if_pos (.inl h0)]
          have HTT:=hid hT;clear hT hq;go_wp2_with fail;go_ret;exact⟨by rw [HTT.out];rfl,rfl⟩
        · by_cases h1:base<=d
          · have hT:T=none:=by rw [<- HU2.out,HD.out,hq,if_pos (.inr h1)]
            have HTT:=hid hT;clear hT hq;go_wp2_with fail;go_ret;exact⟨by rw [HTT.out];rfl,rfl⟩
          · have hr:=HD.out
            rw [hq,if_neg Cf,HU2.out] at hr;have HR:=hid hr;have hm0:0<=n*base:=Int.mul_nonneg hn0 hb16.1;have hm1:n*base<=n*16:=Int.mul_le_mul_of_nonneg_left hb16.2 hn0;obtain⟨y,hy⟩:∃ y,y=n*base:=⟨_,rfl⟩;have HY:=hid hy;rw [<- hy] at hm0 hm1;have hy2:IntKind.i64.wrap (n*base)=y:=by rw [<- HY.out];simp [IntKind.wrap,IntKind.bits,IntKind.signed];omega
            clear hr hq hy;go_wp2_with fail
            go_round
            case rel=>exact⟨i+1,y+d,rfl,Gv,Cf,by rw [HR.out,HY.out],Cf,by have:=HN.out;rw [Int.pow_succ];omega⟩
            case measure=>simp only [intOf];omega
      · have hie:i=cnt:=by omega
        subst hie;have hT:some n=T:=by rw [<- HU.out,Nat.sub_self];rfl
        have HTT:=hid hT;clear hT;go_wp2_with fail;go_ret;exact⟨by rw [<- HTT.out];rfl,rfl⟩
end Ck
namespace Ck
open Go.RowKit
variable {w w':World}
theorem rQ8 (z:Int) (W:World) (b:Nat) (h0:0<=z) (h1:z < 256) (hb:W.heap.size=b) :
    Sem.run Tryz.prog (convert 40 9 (.slice (some ⟨b,0,none⟩) 1 1)) (W.alloc (.cells #[Value.int .u8 z] 5))=.ok (.string ⟨[by8 z].toArray⟩) (W.alloc (.cells #[Value.int .u8 z] 5)):=by
  subst hb;exact jQ5 W [z] Cn 1 rfl Cf
theorem gQ7 (v:Int):(fmR v).length<=4:=by
  unfold fmR
  repeat' split
  all_goals simp
def Sm (e:Ending):Prop:=∃ s:List UInt8,e=.returned (.string ⟨s.toArray⟩)/\s.length<=4
theorem ZQ5 (n:Int) (m:UInt8) (h0:0<=n) (h1:n < 256):Calls Tryz.prog 206 #[.int .i64 n,.int .u8 (m.toNat:Int)] w fun e w'=>Sm e/\Below w.heap.size w w':=by
  have hc:=hid (rQ8 n w w.heap.size h0 h1 rfl);have hF:=hid (cQ5 (w:=w) n);by_cases hm:(m.toNat:Int)=34
  · go_enter Tryz.func206,Tryz.ntmps206
    go_wp2_with fail;rw [hc.out];go_wp2_with fail;go_ret;exact⟨⟨[by8 n],rfl,Cm⟩,(J' _ _).alloc (C' _) _⟩
  · go_enter Tryz.func206,Tryz.ntmps206
    go_wp2_with fail;refine hF.out.mono ?_;rintro e w2 ⟨rfl,hb⟩;go_wp2_with fail;go_ret;exact⟨⟨fmR n,rfl,gQ7 n⟩,hb⟩
def nQ5:List UInt8:=[97,98,102,110,114,116,118,92]
def xQ5 (l:List UInt8) (m:UInt8) (p:Nat):Nat :=
  if h:p+1 < l.length then
    if 0<=Lib.indexByte nQ5 l[p+1] then 2
    else if l[p+1]=m then 2
    else if l[p+1]=120 then (match JQ4 l 16 2 (p+2) 0 with|none=>0|some _=>4)
    else if l[p+1]=117∨l[p+1]=85 then (match JQ4 l 16 (if l[p+1]=85 then 8 else 4) (p+2) 0 with|none=>0|some n=>if EQ4 n then 2+(if l[p+1]=85 then 8 else 4) else 0)
    else (match JQ4 l 8 3 (p+1) 0 with|none=>0|some n=>if n<=255 then 4 else 0)
  else 0
def ixV (n:Int):Int:=if n=97 then 0 else if n=98 then 1 else if n=102 then 2 else if n=110 then 3 else if n=114 then 4 else if n=116 then 5 else if n=118 then 6 else if n=92 then 7 else -1
theorem nQ9:∀ c:Fin 256,Lib.indexByte nQ5 (UInt8.ofNat c.val)=ixV c.val:=Gx
theorem QQ9 (c:UInt8):Lib.indexByte nQ5 c=ixV c.toNat:=by
  have h:=nQ9 ⟨c.toNat,c.toNat_lt⟩;simpa using h
theorem yQ4 (c:UInt8) (n:Nat) (h:n < 256):(c.toNat:Int)=n↔c=UInt8.ofNat n:=by
  constructor
  · intro e
    have:c.toNat=n:=Cf
    rw [<- this];simp
  · rintro rfl
    simp;omega
def It (L:Nat) (e:Ending):Prop:=∃ s:List UInt8,e=.returned (.agg #[.int .i64 (L:Int),.string ⟨s.toArray⟩])/\s.length<=4
theorem vQ4 {W:World}{r:Nat}{u v:Value}{T:TypeId} (h:W.heap[r]?=some (.cells #[u,v] T (0,0))) (x y:Value):((W.setCell ⟨r,0,none⟩ x).setCell ⟨r,1,none⟩ y).heap[r]?=some (.cells #[x,y] T (0,0)):=by
  have h2:=heap_setCell_same (W.setCell ⟨r,0,none⟩ x) r 1 _ _ y (heap_setCell_same W r 0 _ _ x h);simp only [N',Q',S'] at h2;exact h2
theorem Tryz.infoIt:(Tryz.prog.info? 167).map (·.size)=some 2:=Ci
theorem uQ4 {fn:Func} (hf:fn.results=#[.cell 6 167]) {R:Ending->World->Prop}{a:Act}{W:World}{r:Nat}{x y:Value} (ht:a.tmps.getD 6 undef=.pointer (some ⟨r,0,none⟩)) (hd:a.defers=[]) (c:W.heap[r]?=some (.cells #[x,y] 167 (0,0))) (hR:R (.returned (.agg #[x,y])) W):bodyPost Tryz.prog fn R .ret a W:=by
  refine bodyPost_ret (v:=.agg #[x,y]) ?_ hd hR;have h:=run_loadVar_row (P:=Tryz.prog) W r _ 167 #[x,y] (0,0) _ c Tryz.underlying167 rfl Tryz.infoIt;have ht2:a.tmps[6]?.getD undef=.pointer (some ⟨r,0,none⟩):=by simpa using ht
  unfold results;rw [hf];simp [ht2,asAddr,h]
theorem PP (l:List UInt8) (m:UInt8) (p:Nat) (hl:l.length<=1048576) (hp:p < l.length):Calls Tryz.prog 177 #[.string ⟨l.toArray⟩,.int .i64 (p:Int),.int .u8 (m.toNat:Int)] w fun e w'=>It (xQ5 l m p) e/\Below w.heap.size w w':=by
  obtain⟨T,hT⟩:∃ T,T=xQ5 l m p:=⟨_,rfl⟩;rw [<- hT];by_cases h1:p+1 < l.length
  · obtain⟨q,hq⟩:∃ q,q=p+1:=⟨_,rfl⟩
    have hql:q < l.length:=Cf
    have HQ:=hid hq;have j1:(p:Int)+1=(q:Int):=Cf
    have j2:(0:Int)<=(q:Int):=Cf
    have j3:(q:Int) < (l.length:Int):=Cf
    have HE:Hid (T=if 0<=Lib.indexByte nQ5 l[q] then 2 else if l[q]=m then 2 else if l[q]=120 then (match JQ4 l 16 2 (p+2) 0 with|none=>0|some _=>4)
      else if l[q]=117∨l[q]=85 then (match JQ4 l 16 (if l[q]=85 then 8 else 4) (p+2) 0 with|none=>0|some n=>if EQ4 n then 2+(if l[q]=85 then 8 else 4) else 0)
      else (match JQ4 l 8 3 (p+1) 0 with|none=>0|some n=>if n<=255 then 4 else 0)):=hid (by subst hq;rw [hT];unfold xQ5;rw [dif_pos h1])
    obtain⟨c,hc⟩:∃ c,c=l[q]:=⟨_,rfl⟩;rw [<- hc] at HE;have hcq:(l[q].toNat:Int)=(c.toNat:Int):=by rw [hc]
    have hc256:=c.toNat_lt;clear hT h1 hq hc;go_enter Tryz.func177,Tryz.ntmps177;go_upto_region 6 with fail;obtain⟨W,hW⟩:∃ W,W=(w.alloc (Obj.cells #[Value.int IntKind.i64 0,Value.string ⟨#[]⟩] 167)).alloc (Obj.cells #[Value.int IntKind.u8 7,Value.int IntKind.u8 8,Value.int IntKind.u8 12,Value.int IntKind.u8 10,Value.int IntKind.u8 13,Value.int IntKind.u8 9,Value.int IntKind.u8 11,Value.int IntKind.u8 92] 5):=⟨_,rfl⟩;rw [<- hW];have hs:∀ i,i < 8->W.cell? ⟨w.heap.size+1,i,none⟩=some (.int .u8 (([7,8,12,10,13,9,11,92]:List Int).getD i 0)):=by
      intro i hi;unfold World.cell?;rw [hW,show w.heap.size+1=(w.alloc (Obj.cells #[Value.int IntKind.i64 0,Value.string ⟨#[]⟩] 167)).heap.size by simp,heap_alloc_new];rcases (by omega:i=0∨i=1∨i=2∨i=3∨i=4∨i=5∨i=6∨i=7) with rfl|rfl|rfl|rfl|rfl|rfl|rfl|rfl <;> rfl
    have hR:W.heap[w.heap.size]?=some (Obj.cells #[Value.int IntKind.i64 0,Value.string ⟨#[]⟩] 167 (0,0)):=by
      rw [hW,Ac _ _ _ Cm,heap_alloc_new]
    have hz:W.heap.size=w.heap.size+2:=by rw [hW];simp
    have hb:Below w.heap.size w W:=by rw [hW];exact ((J' _ _).alloc (C' _) _).alloc Cm _
    have HS:=hid hs;have HR:=hid hR;have HB:=hid hb;have HZ:=hid hz;have hIX:Lib.indexByte nQ5 c=ixV c.toNat:=QQ9 c;have HX:=hid hIX;obtain⟨c0,c1,f0,f1⟩:=tA hR;have a0:∀ O,(W.alloc O).cell? ⟨w.heap.size,0,none⟩=some (.int .i64 0):=fun O=>(((J' W.heap.size W).alloc (C' _) O).cell Cn).trans c0
    have a1:∀ O,(W.alloc O).cell? ⟨w.heap.size,1,none⟩=some (.string ⟨#[]⟩):=fun O=>(((J' W.heap.size W).alloc (C' _) O).cell Cn).trans c1
    have a2:∀ O,(W.alloc O).frozen? ⟨w.heap.size,0,none⟩=false:=fun O=>(((J' W.heap.size W).alloc (C' _) O).frozen Cn).trans f0
    have a3:∀ O,(W.alloc O).frozen? ⟨w.heap.size,1,none⟩=false:=fun O=>(((J' W.heap.size W).alloc (C' _) O).frozen Cn).trans f1
    clear hW hs hR hz hb hIX;go_wp2_with fail
    go_loop [10] (fun u=>∃ i:Nat,i<=8/\u=.int .i64 (i:Int)/\(ixV c.toNat < 0∨(i:Int)<=ixV c.toNat)) (fun u=>8 - (intOf u).toNat)
    case atStart=>exact⟨0,Cf,rfl,by unfold ixV;omega⟩
    case round =>
      obtain⟨i,hi,rfl,hv⟩:=hrel;by_cases hlt:i < 8
      · have s0:=HS.out i hlt
        rcases (by omega:i=0∨i=1∨i=2∨i=3∨i=4∨i=5∨i=6∨i=7) with rfl|rfl|rfl|rfl|rfl|rfl|rfl|rfl
        all_goals
          simp only [List.getD_cons_zero,List.getD_cons_succ] at s0;go_wp2_with fail
          all_goals first
            | (go_round
               case rel=>exact⟨_,Ch,rfl,by unfold ixV at hv ⊢;simp_all;omega⟩
               case measure=>simp [intOf])
            | (rw [rQ8 _ _ _ Cf Cf Cm]
               go_wp2_with fail;have hT:T=2:=by rw [HE.out,if_pos (by rw [HX.out];unfold ixV;first|(simp_all;done)|(simp_all;omega))]
               exact uQ4 rfl rfl rfl (vQ4 (by rw [Ac _ _ _ (by have:=HZ.out;omega)];exact HR.out) _ _) ⟨⟨_,by rw [hT];rfl,Cm⟩,((HB.out.alloc (by have:=HZ.out;omega) _).setCell (C' _) _).setCell (C' _) _⟩)
      · have hi8:i=8:=by omega
        subst hi8;have hix:¬ 0<=Lib.indexByte nQ5 c:=by rw [HX.out];unfold ixV at hv ⊢;omega
        have he:=HE.out;rw [if_neg hix] at he;have HE2:=hid he;clear he hix hv;by_cases hcm:c=m
        · have hT:T=2:=by rw [HE2.out,if_pos hcm]
          have HT:=hid hT;subst hcm;clear hT;go_wp2_with fail;rw [rQ8 _ _ _ Cf Cf Cm];go_wp2_with fail;exact uQ4 rfl rfl rfl (vQ4 (by rw [Ac _ _ _ (by have:=HZ.out;omega)];exact HR.out) _ _) ⟨⟨_,by rw [HT.out];rfl,Cm⟩,((HB.out.alloc (by have:=HZ.out;omega) _).setCell (C' _) _).setCell (C' _) _⟩
        · have hne:((c.toNat:Int)==(m.toNat:Int))=false:=by simp;intro h;exact hcm (Av.1 Cf)
          have he:=HE2.out;rw [if_neg hcm] at he;have HE3:=hid he;clear he hcm;obtain⟨q2,hq2⟩:∃ q2,q2=p+2:=⟨_,rfl⟩;have HQ2:=hid hq2;have k2:(p:Int)+2=(q2:Int):=Cf
          have hq2l:q2<=1048580:=Cf
          rw [<- hq2,<- HQ.out] at HE3;clear hq2;by_cases hx:(c.toNat:Int)=120
          · have hcx:c=120:=(yQ4 c 120 Ch).1 hx
            have HN:=hid (QQ4 (w:=W) l q2 2 16 hl hq2l (.inl rfl) (.inr rfl));have he:=HE3.out;rw [if_pos hcx] at he;have HE4:=hid he;clear he;go_wp2_with fail;refine HN.out.mono ?_;rintro e w2 ⟨rfl,rfl⟩;cases hn:JQ4 l 16 2 q2 0 with
            | none =>
              have hT:T=0:=by rw [HE4.out,hn]
              simp only [xQ6];go_wp2_with fail;exact uQ4 rfl rfl rfl (vQ4 HR.out _ _) ⟨⟨[],by rw [hT];rfl,Cm⟩,(HB.out.setCell (C' _) _).setCell (C' _) _⟩
            | some n =>
              have hT:T=4:=by rw [HE4.out,hn]
              have HT:=hid hT;have hbd:=OQ4 (l:=l) Ch Ch 2 q2 0 n 0 Cf Ch hn;have n0:=hbd.1;have n1:n < 256:=by have:=hbd.2;simp at this;omega
              clear hbd hT hn;simp only [xQ6];go_wp2_with fail;refine (ZQ5 n m n0 n1).mono ?_;rintro e w3 ⟨⟨s,rfl,hs4⟩,hb3⟩;have hR3:=(hb3.block w.heap.size (by have:=HZ.out;omega)).trans HR.out;obtain⟨d0,d1,g0,g1⟩:=tA hR3;have HB3:=hid (HB.out.trans (hb3.mono (by have:=HZ.out;omega)));have HR3:=hid hR3;clear hb3 c0 c1 f0 f1 a0 a1 a2 a3 hR3;go_wp2_with fail;exact uQ4 rfl rfl rfl (vQ4 HR3.out _ _) ⟨⟨s,by rw [HT.out];rfl,hs4⟩,(HB3.out.setCell (C' _) _).setCell (C' _) _⟩
          · have hcx:c≠120:=fun h=>hx ((yQ4 c 120 Ch).2 h)
            have he:=HE3.out;rw [if_neg hcx] at he;have HE4:=hid he;have hx1:((c.toNat:Int)==120)=false:=by simpa using hx
            clear he hcx hx;by_cases hx:(c.toNat:Int)=117
            · have hcx:c=117:=(yQ4 c 117 Ch).1 hx
              have HN:=hid (QQ4 (w:=W) l q2 4 16 hl hq2l Ch (.inr rfl));have he:=HE4.out;rw [if_pos (by simp [hcx]),hcx] at he;have HE5:=hid he;clear he;go_wp2_with fail;refine HN.out.mono ?_;rintro e w2 ⟨rfl,rfl⟩;cases hn:JQ4 l 16 4 q2 0 with
              | none =>
                have hT:T=0:=by rw [HE5.out];simp [hn]
                simp only [xQ6];go_wp2_with fail;exact uQ4 rfl rfl rfl (vQ4 HR.out _ _) ⟨⟨[],by rw [hT];rfl,Cm⟩,(HB.out.setCell (C' _) _).setCell (C' _) _⟩
              | some n =>
                have HT:Hid (T=if EQ4 n=true then 6 else 0):=hid (by rw [HE5.out];simp [hn]);have n0:=(OQ4 (l:=l) Ch Ch 4 q2 0 n 0 Cf Ch hn).1;clear hn;simp only [xQ6];go_wp2_with fail;refine (tQ5 n).mono ?_;rintro e w2 ⟨rfl,rfl⟩;cases hm:EQ4 n with
                | false =>
                  have hT:T=0:=by rw [HT.out,hm];rfl
                  go_wp2_with fail;exact uQ4 rfl rfl rfl (vQ4 HR.out _ _) ⟨⟨[],by rw [hT];rfl,Cm⟩,(HB.out.setCell (C' _) _).setCell (C' _) _⟩
                | true =>
                  have hT:=hid (show T=6 by rw [HT.out,hm];rfl);go_wp2_with fail;refine (cQ5 n).mono ?_;rintro e w3 ⟨rfl,hb3⟩;have hR3:=(hb3.block w.heap.size (by have:=HZ.out;omega)).trans HR.out;obtain⟨d0,d1,g0,g1⟩:=tA hR3;have HB3:=hid (HB.out.trans (hb3.mono (by have:=HZ.out;omega)));have HR3:=hid hR3;clear hb3 c0 c1 f0 f1 a0 a1 a2 a3 hR3;go_wp2_with fail;exact uQ4 rfl rfl rfl (vQ4 HR3.out _ _) ⟨⟨fmR n,by rw [hT.out];rfl,gQ7 n⟩,(HB3.out.setCell (C' _) _).setCell (C' _) _⟩
            · by_cases hy:(c.toNat:Int)=85
              · have hx:=hy
                have hcx:c=85:=(yQ4 c 85 Ch).1 hx;have HN:=hid (QQ4 (w:=W) l q2 8 16 hl hq2l Ch (.inr rfl));have he:=HE4.out;rw [if_pos (by simp [hcx]),hcx] at he;have HE5:=hid he;clear he;go_wp2_with fail;refine HN.out.mono ?_;rintro e w2 ⟨rfl,rfl⟩;cases hn:JQ4 l 16 8 q2 0 with
                | none =>
                  have hT:T=0:=by rw [HE5.out];simp [hn]
                  simp only [xQ6];go_wp2_with fail;exact uQ4 rfl rfl rfl (vQ4 HR.out _ _) ⟨⟨[],by rw [hT];rfl,Cm⟩,(HB.out.setCell (C' _) _).setCell (C' _) _⟩
                | some n =>
                  have HT:Hid (T=if EQ4 n=true then 10 else 0):=hid (by rw [HE5.out];simp [hn]);have n0:=(OQ4 (l:=l) Ch Ch 8 q2 0 n 0 Cf Ch hn).1;clear hn;simp only [xQ6];go_wp2_with fail;refine (tQ5 n).mono ?_;rintro e w2 ⟨rfl,rfl⟩;cases hm:EQ4 n with
                  | false =>
                    have hT:T=0:=by rw [HT.out,hm];rfl
                    go_wp2_with fail;exact uQ4 rfl rfl rfl (vQ4 HR.out _ _) ⟨⟨[],by rw [hT];rfl,Cm⟩,(HB.out.setCell (C' _) _).setCell (C' _) _⟩
                  | true =>
                    have hT:=hid (show T=10 by rw [HT.out,hm];rfl);go_wp2_with fail;refine (cQ5 n).mono ?_;rintro e w3 ⟨rfl,hb3⟩;have hR3:=(hb3.block w.heap.size (by have:=HZ.out;omega)).trans HR.out;obtain⟨d0,d1,g0,g1⟩:=tA hR3;have HB3:=hid (HB.out.trans (hb3.mono (by have:=HZ.out;omega)));have HR3:=hid hR3;clear hb3 c0 c1 f0 f1 a0 a1 a2 a3 hR3;go_wp2_with fail;exact uQ4 rfl rfl rfl (vQ4 HR3.out _ _) ⟨⟨fmR n,by rw [hT.out];rfl,gQ7 n⟩,(HB3.out.setCell (C' _) _).setCell (C' _) _⟩
              · have h1:c≠117:=fun h=>hx ((yQ4 c 117 Ch).2 h)
                have h2:c≠85:=fun h=>hy ((yQ4 c 85 Ch).2 h)
                have HN:=hid (QQ4 (w:=W) l q 3 8 hl Cf Ch (.inl rfl));have he:=HE4.out;rw [if_neg (by simp [h1,h2])] at he;have HE5:=hid he;have k3:((c.toNat:Int)==117)=false:=by simpa using hx
                have k4:((c.toNat:Int)==85)=false:=by simpa using hy
                clear he h1 h2 hx hy;go_wp2_with fail;refine HN.out.mono ?_;rintro e w2 ⟨rfl,rfl⟩;cases hn:JQ4 l 8 3 q 0 with
                | none =>
                  have hT:T=0:=by rw [HE5.out,hn]
                  simp only [xQ6];go_wp2_with fail;exact uQ4 rfl rfl rfl (vQ4 HR.out _ _) ⟨⟨[],by rw [hT];rfl,Cm⟩,(HB.out.setCell (C' _) _).setCell (C' _) _⟩
                | some n =>
                  have HT:Hid (T=if n<=255 then 4 else 0):=hid (by rw [HE5.out,hn]);have n0:=(OQ4 (l:=l) Ch Ch 3 q 0 n 0 Cf Ch hn).1;clear hn;simp only [xQ6];by_cases hn:n<=255
                  · have hT:=hid (show T=4 by rw [HT.out,if_pos hn])
                    go_wp2_with fail;refine (ZQ5 n m n0 Cf).mono ?_;rintro e w3 ⟨⟨s,rfl,hs4⟩,hb3⟩;have hR3:=(hb3.block w.heap.size (by have:=HZ.out;omega)).trans HR.out;obtain⟨d0,d1,g0,g1⟩:=tA hR3;have HB3:=hid (HB.out.trans (hb3.mono (by have:=HZ.out;omega)));have HR3:=hid hR3;clear hb3 c0 c1 f0 f1 a0 a1 a2 a3 hR3;go_wp2_with fail;exact uQ4 rfl rfl rfl (vQ4 HR3.out _ _) ⟨⟨s,by rw [hT.out];rfl,hs4⟩,(HB3.out.setCell (C' _) _).setCell (C' _) _⟩
                  · have hT:=hid (show T=0 by rw [HT.out,if_neg hn])
                    go_wp2_with fail;exact uQ4 rfl rfl rfl (vQ4 HR.out _ _) ⟨⟨[],by rw [hT.out];rfl,Cm⟩,(HB.out.setCell (C' _) _).setCell (C' _) _⟩
  · have hT:T=0:=by rw [hT];unfold xQ5;rw [dif_neg h1]
    have hTT:=hid hT;have i0:(l.length:Int)<=(p:Int)+1:=Cf
    clear hT;go_enter Tryz.func177,Tryz.ntmps177;go_wp2_with fail
    go_returns
    exact⟨⟨[],by rw [hTT.out];rfl,Cm⟩,(J' _ _).alloc (C' _) _⟩
end Ck
namespace Ck
open Go.RowKit
variable {w w':World}
def itN (l:List UInt8) (m:UInt8) (p:Nat):Nat:=if h:p < l.length then (if l[p]=92 then xQ5 l m p else if l[p]=10 then 0 else if m=34 then 1 else (vB l p).2.toNat) else 0
theorem bQ9 (l:List UInt8):(dec l).2<=4:=by
 by_cases h:l=[]
 ·subst h;decide
 ·rw [xQ7 h];rcases Lib.decodeN_shape l.length (l.getD 0 0).toNat (l.getD 1 0).toNat (l.getD 2 0).toNat (l.getD 3 0).toNat with ⟨c,e⟩|⟨c1,c2,c3,cv,e⟩|⟨c1,c2,c3,c4,cv,cs,e⟩|⟨c1,c2,c3,c4,c5,cv,cw,e⟩|e <;> rw [e] <;> simp
theorem DQ6 {l:List UInt8}{p:Nat} (h:p < l.length):0<=(vB l p).2/\(vB l p).2<=4:=by
 have:=bQ9 (l.drop p);unfold vB;rw [if_neg Cf,Ae];split
 ·exact Cm
 ·exact I0
theorem gQ6 (l:List UInt8) (m:UInt8) (p:Nat) (hl:l.length<=1048576) (hp:p < l.length):Calls Tryz.prog 133 #[.string ⟨l.toArray⟩,.int .i64 (p:Int),.int .u8 (m.toNat:Int)] w fun e w'=>It (itN l m p) e/\Below w.heap.size w w':=by
 obtain⟨T,hT⟩:∃ T,T=itN l m p:=⟨_,rfl⟩;rw [<- hT];obtain⟨c,hc⟩:∃ c,c=l[p]:=⟨_,rfl⟩;have hE:T=if c=92 then xQ5 l m p else if c=10 then 0 else if m=34 then 1 else (vB l p).2.toNat:=by rw [hT];unfold itN;rw [dif_pos hp,<- hc]
 have HE:=hid hE;have hcq:(l[p].toNat:Int)=(c.toNat:Int):=by rw [hc]
 have j2:(0:Int)<=(p:Int):=Cf
 have j3:(p:Int) < (l.length:Int):=Cf
 have hR:=heap_alloc_new w (Obj.cells #[Value.int IntKind.i64 0,Value.string ⟨#[]⟩] 167);have hb:=(J' w.heap.size w).alloc (C' _) (Obj.cells #[Value.int IntKind.i64 0,Value.string ⟨#[]⟩] 167);have hz:(w.alloc (Obj.cells #[Value.int IntKind.i64 0,Value.string ⟨#[]⟩] 167)).heap.size=w.heap.size+1:=Cm
 clear hT hc hE;go_enter Tryz.func133,Tryz.ntmps133;go_upto_region 1 with fail;generalize w.alloc (Obj.cells #[Value.int IntKind.i64 0,Value.string ⟨#[]⟩] 167)=W at *;obtain⟨c0,c1,f0,f1⟩:=tA hR;have HR:=hid hR;have HB:=hid hb;have HZ:=hid hz;clear hR hb hz;by_cases h92:(c.toNat:Int)=92
 ·have hT:T=xQ5 l m p:=by rw [HE.out,if_pos (show c=92 from (yQ4 c 92 Ch).1 h92)]
  have HT:=hid hT;clear hT;go_wp2_with fail;refine (PP l m p hl hp).mono ?_;rintro e w3 ⟨⟨s,rfl,hs4⟩,hb3⟩;have hR3:=(hb3.block w.heap.size (by have:=HZ.out;omega)).trans HR.out;obtain⟨d0,d1,g0,g1⟩:=tA hR3;have HB3:=hid (HB.out.trans (hb3.mono (by have:=HZ.out;omega)));have HR3:=hid hR3;clear hb3 c0 c1 f0 f1 hR3;rw [<- HT.out];go_wp2_with fail;exact uQ4 rfl rfl rfl (vQ4 HR3.out _ _) ⟨⟨s,rfl,hs4⟩,(HB3.out.setCell (C' _) _).setCell (C' _) _⟩
 ·have he:=HE.out;rw [if_neg (fun h:c=92=>h92 ((yQ4 c 92 Ch).2 h))] at he;have HE2:=hid he;clear he;by_cases h10:(c.toNat:Int)=10
  ·have hT:T=0:=by rw [HE2.out,if_pos (show c=10 from (yQ4 c 10 Ch).1 h10)]
   have HT:=hid hT;clear hT;go_wp2_with fail;exact uQ4 rfl rfl rfl (vQ4 HR.out _ _) ⟨⟨[],by rw [HT.out];rfl,Cm⟩,(HB.out.setCell (C' _) _).setCell (C' _) _⟩
  ·have he:=HE2.out;rw [if_neg (fun h:c=10=>h10 ((yQ4 c 10 Ch).2 h))] at he;have HE3:=hid he;clear he;by_cases hm:(m.toNat:Int)=34
   ·have hT:T=1:=by rw [HE3.out,if_pos (show m=34 from (yQ4 m 34 Ch).1 hm)]
    have HT:=hid hT;have j5:(p:Int)+1<=(l.length:Int):=Cf
    clear hT;go_wp2_with fail;refine uQ4 rfl rfl rfl (vQ4 HR.out _ _) ⟨⟨(l.drop p).take 1,?_,Cn⟩,(HB.out.setCell (C' _) _).setCell (C' _) _⟩;rw [HT.out]
    rfl
   ·have hT:T=(vB l p).2.toNat:=by rw [HE3.out,if_neg (fun h:m=34=>hm ((yQ4 m 34 Ch).2 h))]
    have HT:=hid hT;have hrd:=DQ6 hp;have hrl:=FQ5 (l:=l) (p:=p) hp;clear hT;go_wp2_with fail;refine (IQ5 l p Cf).mono ?_;rintro e w3 ⟨rfl,hb3⟩;have hR3:=(hb3.block w.heap.size (by have:=HZ.out;omega)).trans HR.out;obtain⟨d0,d1,g0,g1⟩:=tA hR3;have HB3:=hid (HB.out.trans (hb3.mono (by have:=HZ.out;omega)));have HR3:=hid hR3;clear hb3 c0 c1 f0 f1 hR3;generalize (vB l p).1=r1 at *;obtain⟨n,hn⟩:=Aa hrd.1;rw [hn] at hrd hrl HT ⊢;have hn4:n<=4:=Cf
    have hpl:p+n<=l.length:=by
     by_cases h0:n=0
     ·exact Cf
     ·have:=hrl Cf;omega
    obtain⟨q,hq⟩:∃ q,q=p+n:=⟨_,rfl⟩;have j4:(p:Int)+(n:Int)=(q:Int):=Cf
    have j5:(q:Int)<=(l.length:Int):=Cf
    have j6:(p:Int)<=(q:Int):=Cf
    have HQ:=hid hq;clear hrd hrl hn hq hpl;go_wp2_with fail;refine uQ4 rfl rfl rfl (vQ4 HR3.out _ _) ⟨⟨(l.drop p).take n,?_,Cn⟩,(HB3.out.setCell (C' _) _).setCell (C' _) _⟩;rw [HT.out,Ae,show q - p=n from by have:=HQ.out;omega]
end Ck
namespace Ck
open Go.RowKit
theorem XQ5 {n:Int}:(1114111 < n∨sF n=[])↔¬ (EQ4 n=true)∨n < 0/\sF n=[]:=by
 have hv:Lib.validRune n=EQ4 n:=by unfold Lib.validRune EQ4;rw [Bool.eq_iff_iff];simp;omega
 have he:EQ4 n=true->sF n≠[]:=by
  intro h;unfold sF;rw [hv,if_pos h];unfold Utf8.encode
  dsimp only
  repeat' split
  all_goals simp
 cases hm:EQ4 n with
 | true =>
  have h1:0<=n/\n<=1114111:=by simp [EQ4] at hm;omega
  constructor
  ·rintro (h|h)
   ·exact Cf
   ·exact absurd h (he hm)
  ·rintro (h|h)
   ·exact absurd rfl h
   ·exact Cf
 | false =>
  have:sF n=[]:=by unfold sF;rw [hv,hm];rfl
  simp [this]
theorem yQ6 (m:UInt8) (n:Int) (ch:Bool) (q:Qs):(ED m n ch q).k=q.k:=by
 unfold ED
 repeat' split
 all_goals rfl
theorem hQ5 (m:UInt8) (n:Int) (ch:Bool) (q:Qs) (h:q.bad=true):(ED m n ch q).bad=true:=by
 unfold ED
 repeat' split
 all_goals first|exact h|rfl
theorem LQ5 (m:UInt8) (n:Int) (q:Qs) (h0:0<=n) (h1:n < 256):(ED m n false q).bad=q.bad:=by
 have hm:EQ4 n=true:=by unfold EQ4;simp;omega
 unfold ED;split
 ·exact Ct
 ·rw [if_neg];rw [XQ5];rintro (h|h)
  ·exact h hm
  ·exact Cf
theorem cQ6 (m:UInt8) (n:Int) (q:Qs) (h0:0<=n) (hq:q.bad=false):(ED m n true q).bad=!EQ4 n:=by
 unfold ED;rw [if_neg Cm];cases hm:EQ4 n with
 | true =>
  rw [if_neg]
  ·exact hq
  ·rw [XQ5];rintro (h|h)
   ·exact h hm
   ·exact Cf
 | false =>
  rw [if_pos (XQ5.2 (.inl (by simp [hm])))]
  rfl
theorem GQ9 {l:List UInt8}{m:UInt8}{p:Nat} (o:List UInt8):(xQ5 l m p=0/\(zC l m ⟨p+1,o,false⟩).bad=true)∨(0 < xQ5 l m p/\(zC l m ⟨p+1,o,false⟩).bad=false/\(zC l m ⟨p+1,o,false⟩).k=p+xQ5 l m p):=by
 unfold xQ5 zC;by_cases h:p+1 < l.length
 ·rw [dif_pos h];simp only [dif_pos h];by_cases h1:0<=Lib.indexByte nQ5 l[p+1]
  ·right
   rw [if_pos h1];have h1':0<=Lib.indexByte [97,98,102,110,114,116,118,92] l[p+1]:=h1;simp only [if_pos h1'];exact⟨Cf,trivial,trivial⟩
  ·rw [if_neg h1];have h1':¬ 0<=Lib.indexByte [97,98,102,110,114,116,118,92] l[p+1]:=h1;simp only [if_neg h1'];by_cases h2:l[p+1]=m
   ·right
    rw [if_pos h2];simp only [if_pos h2];exact⟨Cf,trivial,trivial⟩
   ·rw [if_neg h2];simp only [if_neg h2];by_cases h3:l[p+1]=120
    ·rw [if_pos h3];simp only [if_pos h3];obtain⟨n1,n2⟩:=UQ5 (l:=l) (base:=16) 2 (p+2) o 0;cases hn:JQ4 l 16 2 (p+2) 0 with
     | none =>
      left
      obtain⟨e1,e2⟩:=n1 hn;exact⟨rfl,hQ5 _ _ _ _ e1⟩
     | some n =>
      right
      have e:=n2 n hn;have hb:=OQ4 (l:=l) Ch Ch 2 (p+2) 0 n 0 Cf Ch hn;have hb2:=hb.2;simp at hb2;rw [show p+1+1=p+2 from rfl,e];exact⟨Cm,LQ5 _ _ _ hb.1 Cf,by rw [yQ6];show p+2+2=p+4;omega⟩
    ·rw [if_neg h3];simp only [if_neg h3];by_cases h4:l[p+1]=85
     ·rw [if_pos (.inr h4)];simp only [if_pos h4];obtain⟨n1,n2⟩:=UQ5 (l:=l) (base:=16) 8 (p+2) o 0;cases hn:JQ4 l 16 8 (p+2) 0 with
      | none =>
       left
       obtain⟨e1,e2⟩:=n1 hn;exact⟨rfl,hQ5 _ _ _ _ e1⟩
      | some n =>
       have e:=n2 n hn;have hb:=OQ4 (l:=l) Ch Ch 8 (p+2) 0 n 0 Cf Ch hn;rw [show p+1+1=p+2 from rfl,e];have hc:=cQ6 m n ⟨p+2+8,o,false⟩ hb.1 rfl;cases hm:EQ4 n with
       | true=>right;rw [hm] at hc;exact⟨by simp [hm],hc,by rw [yQ6];simp [hm]⟩
       | false=>left;rw [hm] at hc;exact⟨by simp [hm],hc⟩
     ·simp only [if_neg h4];by_cases h5:l[p+1]=117
      ·rw [if_pos (.inl h5)];simp only [if_pos h5];obtain⟨n1,n2⟩:=UQ5 (l:=l) (base:=16) 4 (p+2) o 0;cases hn:JQ4 l 16 4 (p+2) 0 with
       | none =>
        left
        obtain⟨e1,e2⟩:=n1 hn;exact⟨rfl,hQ5 _ _ _ _ e1⟩
       | some n =>
        have e:=n2 n hn;have hb:=OQ4 (l:=l) Ch Ch 4 (p+2) 0 n 0 Cf Ch hn;rw [show p+1+1=p+2 from rfl,e];have hc:=cQ6 m n ⟨p+2+4,o,false⟩ hb.1 rfl;cases hm:EQ4 n with
        | true=>right;rw [hm] at hc;exact⟨by simp [hm],hc,by rw [yQ6];simp [hm]⟩
        | false=>left;rw [hm] at hc;exact⟨by simp [hm],hc⟩
      ·rw [if_neg (by rintro (h|h);exact h5 h;exact h4 h)];simp only [if_neg h5];obtain⟨n1,n2⟩:=UQ5 (l:=l) (base:=8) 3 (p+1) o 0;cases hn:JQ4 l 8 3 (p+1) 0 with
       | none =>
        left
        obtain⟨e1,e2⟩:=n1 hn;exact⟨rfl,hQ5 _ _ _ _ (by simp [e1])⟩
       | some n =>
        have e:=n2 n hn;have hb:=OQ4 (l:=l) Ch Ch 3 (p+1) 0 n 0 Cf Ch hn;rw [e];by_cases h255:n<=255
        ·right
         refine⟨by simp [h255],?_,by rw [yQ6];simp [h255]⟩;rw [LQ5 _ _ _ Cf Cf];simp;omega
        ·left
         refine⟨by simp [h255],hQ5 _ _ _ _ ?_⟩;simp;omega
 ·left
  rw [dif_neg h];simp only [dif_neg h];exact⟨trivial,trivial⟩
def rdN (l:List UInt8) (m:UInt8):Nat->Nat->Nat->Option Nat
 | 0,_,_=>none
 | f+1,it,k=>if h:k < l.length then (if l[k]=m then (if m=34∨it=1 then some (k+1) else none) else if m=39/\it=1 then none else if itN l m k=0 then none else rdN l m f (it+1) (k+itN l m k)) else none
theorem NQ5 (l:List UInt8) (m:UInt8) (f it:Nat) (q:Qs) (h:q.bad=true):(jC l m f it q).1=false:=by rw [aN (.inr h)]
theorem mQ9 {l:List UInt8}{m:UInt8} (hm:m=34∨m=39):∀ (f it k:Nat) (o:List UInt8),((jC l m f it ⟨k,o,false⟩).1=(rdN l m f it k).isSome)/\∀ e,rdN l m f it k=some e->(jC l m f it ⟨k,o,false⟩).2.k=e
 | 0,it,k,o=>⟨rfl,fun e h=>C4⟩
 | f+1,it,k,o=>by
  unfold rdN jC
  dsimp only
  by_cases h:k < l.length
  ·rw [dif_pos h];simp only [dif_pos h];rw [if_neg Cm];by_cases h1:l[k]=m
   ·rw [if_pos h1,if_pos h1];by_cases h2:m=34∨it=1
    ·rw [if_pos h2];exact⟨F9,fun e he=>by cases he;rfl⟩
    ·rw [if_neg h2];exact⟨F9,fun e he=>by cases he⟩
   ·rw [if_neg h1,if_neg h1];by_cases h3:m=39/\it=1
    ·rw [if_pos h3,if_pos h3];exact⟨rfl,fun e he=>by cases he⟩
    ·rw [if_neg h3,if_neg h3];by_cases h4:l[k]=92
     ·rw [if_pos h4];have hi:itN l m k=xQ5 l m k:=by unfold itN;rw [dif_pos h,if_pos h4]
      rw [hi];rcases GQ9 (l:=l) (m:=m) (p:=k) o with ⟨e1,e2⟩|⟨e1,e2,e3⟩
      ·rw [if_pos e1];exact⟨NQ5 _ _ _ _ _ e2,fun e he=>by cases he⟩
      ·rw [if_neg Cf];generalize zC l m ⟨k+1,o,false⟩=q at *;obtain⟨k2,o2,b2⟩:=q;simp only [] at e2 e3;subst e2 e3;exact mQ9 hm f (it+1) _ o2
     ·rw [if_neg h4];have hi:itN l m k=if l[k]=10 then 0 else vD l m k:=by
       unfold itN vD;rw [dif_pos h,if_neg h4];rcases hm with rfl|rfl <;> simp
      rw [hi];have hb:(PD l m ⟨k,o,false⟩).bad=(decide (vD l m k=0)||decide (l[k]=10)):=by
       unfold PD;simp [h]
      have hk:(PD l m ⟨k,o,false⟩).k=k+vD l m k:=rfl;by_cases h5:l[k]=10
      ·rw [if_pos h5,if_pos rfl];exact⟨NQ5 _ _ _ _ _ (by rw [hb,h5];simp),fun e he=>by cases he⟩
      ·rw [if_neg h5];by_cases h6:vD l m k=0
       ·rw [if_pos h6];exact⟨NQ5 _ _ _ _ _ (by rw [hb,h6];simp),fun e he=>by cases he⟩
       ·rw [if_neg h6];have e2:(PD l m ⟨k,o,false⟩).bad=false:=by rw [hb];simp [h5,h6]
        generalize PD l m ⟨k,o,false⟩=q at *;obtain⟨k2,o2,b2⟩:=q;simp only [] at e2 hk;subst e2 hk;exact mQ9 hm f (it+1) _ o2
  ·rw [dif_neg h];simp only [dif_neg h];exact⟨rfl,fun e he=>by cases he⟩
end Ck
namespace Ck
open Go.RowKit
def VQ4 (l:List UInt8):Option Nat :=
 if h:0 < l.length then
  (if l[0]=96 then (if Lib.indexByte (l.drop 1) 96 < 0 then none else some ((Lib.indexByte (l.drop 1) 96).toNat+2))
  else if l[0]=34∨l[0]=39 then rdN l l[0] l.length 0 1 else none)
 else none
theorem MQ8:∀ c:Fin 256,Lib.indexByte ([39,34,96]:List UInt8) (UInt8.ofNat c.val)=if c.val=39 then 0 else if c.val=34 then 1 else if c.val=96 then 2 else -1:=Gx
theorem zQ7 (c:UInt8):Lib.indexByte ([39,34,96]:List UInt8) c < 0↔¬ (c=39∨c=34∨c=96):=by
 have h:=MQ8 ⟨c.toNat,c.toNat_lt⟩;simp only [UInt8.ofNat_toNat] at h;rw [h];have e1:=yQ4 c 39 Ch;have e2:=yQ4 c 34 Ch;have e3:=yQ4 c 96 Ch;rw [show c=39↔(c.toNat:Int)=39 from e1.symm,show c=34↔(c.toNat:Int)=34 from e2.symm,show c=96↔(c.toNat:Int)=96 from e3.symm]
 repeat' split
 all_goals omega
theorem HQ9 (l:List UInt8):(YA l 0).e=0/\(YA l 0).tx=l.length↔VQ4 l=some l.length:=by
 unfold VQ4 YA;by_cases h:0 < l.length
 ·rw [dif_pos (show (0:Int)<=0/\(0:Int) < l.length by omega),dif_pos h];have h0:l[(0:Int).toNat]' Dc=l[0]:=rfl;simp only [h0];by_cases h1:l[0]=39∨l[0]=34∨l[0]=96
  ·rw [if_neg (by rw [zQ7];exact fun hn=>hn h1)];by_cases h2:l[0]=96
   ·rw [if_pos h2,if_pos h2];rw [show (0:Int).toNat+1=1 from rfl];by_cases h3:Lib.indexByte (l.drop 1) 96 < 0
    ·rw [if_pos h3,if_pos h3];simp
    ·rw [if_neg h3,if_neg h3]
     dsimp only
     rw [Option.some.injEq];constructor
     ·rintro⟨_,h5⟩;omega
     ·intro h5;exact⟨rfl,Cf⟩
   ·rw [if_neg h2,if_neg h2];have hm:l[0]=34∨l[0]=39:=by rcases h1 with h|h|h <;> simp_all
    rw [if_pos hm];obtain⟨r1,r2⟩:=mQ9 (l:=l) (m:=l[0]) hm l.length 0 1 [];rw [show (0:Int).toNat+1=1 from rfl,r1];cases hr:rdN l l[0] l.length 0 1 with
    | none=>simp
    | some e =>
     have:=r2 e hr;simp only [Option.isSome_some,if_true,this];rw [Option.some.injEq];constructor
     ·rintro⟨_,h5⟩;omega
     ·intro h5;exact⟨trivial,Cf⟩
  ·rw [if_pos (by rw [zQ7];exact h1),if_neg (fun e=>h1 (.inr (.inr e))),if_neg (by rintro (e|e);exact h1 (.inr (.inl e));exact h1 (.inl e))];simp
 ·rw [dif_neg Cf,dif_neg h];simp
theorem aQ9 (l:List UInt8):((uG l).2=0)↔VQ4 l=some l.length:=by
 unfold uG;rw [<- HQ9];split
 ·rename_i h;simp [h]
 ·rename_i h;simp only [h,iff_false];decide
end Ck
namespace Ck
open Go.RowKit
variable {w w':World}
def lQ7 (l:List UInt8) (e:Ending):Prop:=∃ (k t er:Int) (v:List UInt8),e=.returned (.tuple #[.int .u8 k,.int .i64 t,.string ⟨v.toArray⟩,.int .i64 er])/\((VQ4 l=none/\(er==0)=false)∨(∃ x:Nat,VQ4 l=some x/\t=(x:Int)/\er=0))
theorem KQ4 {l:List UInt8}{er:Int} (h:VQ4 l=none) (he:(er==0)=false):lQ7 l (.returned (.tuple #[.int .u8 0,.int .i64 0,.string ⟨#[]⟩,.int .i64 er])):=⟨0,0,er,[],rfl,.inl ⟨h,he⟩⟩
theorem sQ6 {l:List UInt8}{k t:Int}{x:Nat}{v:List UInt8} (h:VQ4 l=some x) (ht:t=(x:Int)):lQ7 l (.returned (.tuple #[.int .u8 k,.int .i64 t,.string ⟨v.toArray⟩,.int .i64 0])):=⟨k,t,0,v,rfl,.inr ⟨x,h,ht,rfl⟩⟩
def Own (W w:World) (u:Value) (n:Nat):Prop:=∃ bs:List UInt8,w.ownsRow W.heap.size 5 1 u bs.length (Lib.byteCells bs)/\bs.length<=n
theorem PQ5 {W w3:World}{v3:Value}{bs:List UInt8}{c:UInt8}{n:Nat} (h:w3.ownsRow W.heap.size 5 1 v3 (bs.length+1) (Lib.byteCells bs++[.int .u8 (c.toNat:Int)])) (hn:bs.length<=n):Own W w3 v3 (n+1) :=
 ⟨bs++[c],by rw [O'];simpa [Lib.byteCells] using h,Cn⟩
theorem vQ8 {l:List UInt8}{i:Nat} (h1:1<=i) (hi:i < l.length) (he:l[i]=96) (hno:∀ j,1<=j->j < i->l[j]?≠some 96):Lib.indexByte (l.drop 1) 96=((i - 1:Nat):Int):=by
 have h2:=cW (l.drop 1) 96;have hx:(l.drop 1)[i - 1]?=some 96:=by rw [List.getElem?_drop,show 1+(i - 1)=i by omega,M' hi,he]
 by_cases hn:Lib.indexByte (l.drop 1) 96 < 0
 ·have:Lib.indexByte (l.drop 1) 96=-1:=by have:=Lib.indexByte_ge (l.drop 1) 96;omega
  exact absurd hx (Lib.indexByte_none this _)
 ·obtain⟨o,ho⟩:=Aa (Int.not_lt.1 hn);obtain⟨s1,s2⟩:=Lib.indexByte_some ho;rw [ho];rcases Nat.lt_trichotomy o (i - 1) with h|h|h
  ·rw [List.getElem?_drop] at s1;exact absurd s1 (hno (1+o) Cf Cf)
  ·rw [h]
  ·exact absurd hx (s2 _ h)
theorem cQ8 {l:List UInt8} (hno:∀ j,1<=j->j < l.length->l[j]?≠some 96):Lib.indexByte (l.drop 1) 96 < 0:=by
 rcases Int.lt_or_le (Lib.indexByte (l.drop 1) 96) 0 with h|h
 ·exact h
 ·obtain⟨o,ho⟩:=Aa h;obtain⟨s1,s2⟩:=Lib.indexByte_some ho;rw [List.getElem?_drop] at s1;have hl:1+o < l.length:=(Ai.1 s1).1;exact absurd s1 (hno _ Cf hl)
theorem eQ8 (l:List UInt8) (hl:l.length<=1048576) (h:∀ h:0 < l.length,l[0]≠39/\l[0]≠34/\l[0]≠96):Calls Tryz.prog 96 #[.string ⟨l.toArray⟩,.int .i64 0] w fun e w'=>lQ7 l e/\Below w.heap.size w w':=by
 have hb:=J' w.heap.size w;by_cases h0:0 < l.length
 ·obtain⟨c,hc⟩:∃ c,c=l[0]:=⟨_,rfl⟩;have hh:=h h0;rw [<- hc] at hh;obtain⟨h1,h2,h3⟩:=hh;have hE:=hid (show VQ4 l=none by unfold VQ4;rw [dif_pos h0,<- hc,if_neg h3,if_neg (by rintro (e|e);exact h2 e;exact h1 e)]);have k39:¬ (c.toNat:Int)=39:=fun e=>h1 ((yQ4 c 39 Ch).1 e)
  have b39:((c.toNat:Int) != 39)=true:=by simpa using k39
  have k34:¬ (c.toNat:Int)=34:=fun e=>h2 ((yQ4 c 34 Ch).1 e)
  have b34:((c.toNat:Int) != 34)=true:=by simpa using k34
  have k96:¬ (c.toNat:Int)=96:=fun e=>h3 ((yQ4 c 96 Ch).1 e)
  have b96:((c.toNat:Int) != 96)=true:=by simpa using k96
  have hcq:(l[0].toNat:Int)=(c.toNat:Int):=by rw [hc]
  have hll:(0:Int) < (l.length:Int):=Cf
  have hne:¬ l=[]:=by intro e;rw [e] at h0;simp at h0
  clear h h1 h2 h3 hc;go_enter Tryz.func96,Tryz.ntmps96;go_wp2_with fail
  all_goals (try simp only [Exit.inBlock,Exit.then]);refine bodyPost_ret (RC rfl _ _ _) rfl ?_
  exact⟨KQ4 hE.out rfl,hb⟩
 ·have hE:=hid (show VQ4 l=none by unfold VQ4;rw [dif_neg h0]);have hll:l=[]:=List.length_eq_zero_iff.1 Cf;subst hll;clear h;go_enter Tryz.func96,Tryz.ntmps96;go_wp2_with fail
  all_goals (try simp only [Exit.inBlock,Exit.then]);refine bodyPost_ret (RC rfl _ _ _) rfl ?_
  exact⟨KQ4 hE.out rfl,hb⟩
theorem hQ9 (l:List UInt8) (hl:l.length<=1048576) (h0:0 < l.length) (hc:l[0]=96):Calls Tryz.prog 96 #[.string ⟨l.toArray⟩,.int .i64 0] w fun e w'=>lQ7 l e/\Below w.heap.size w w':=by
 have HE:Hid (VQ4 l=if Lib.indexByte (l.drop 1) 96 < 0 then none else some ((Lib.indexByte (l.drop 1) 96).toNat+2)):=hid (by unfold VQ4;rw [dif_pos h0,if_pos hc]);have hcq:(l[0].toNat:Int)=96:=by rw [hc];rfl
 have hll:(0:Int) < (l.length:Int):=Cf
 have hne:¬ l=[]:=by intro e;rw [e] at h0;simp at h0
 clear hc;go_enter Tryz.func96,Tryz.ntmps96;go_wp2_with fail;clear hcq
 go_loopw [9,10] (fun u9 u10 wr=>∃ i:Nat,u10=.int .i64 (i:Int)/\1<=i/\i<=l.length/\Own w wr u9 i/\(∀ j,1<=j->j < i->l[j]?≠some 96)/\Below w.heap.size w wr) (fun _ u _=>(l.length - intOf u).toNat)
 case atStart=>exact⟨1,rfl,Cf,Cf,⟨[],As _ _ _ _,Cm⟩,fun j a b=>Cf,J' _ _⟩
 case round =>
  obtain⟨i,rfl,hi1,hil,⟨bs,hown,hbs⟩,hno,hb⟩:=hrel;have HO:=hid hown;have HNO:=hid hno;have HB:=hid hb;have hcv:=fun j=>cM hown j
  clear hown hno hb;by_cases hlt:i < l.length
  ·obtain⟨c,hc⟩:∃ c,c=l[i]:=⟨_,rfl⟩;have hcq:(l[i].toNat:Int)=(c.toNat:Int):=by rw [hc]
   have HC:=hid hc;have i0:(0:Int)<=(i:Int):=Cf
   have i1:(i:Int) < (l.length:Int):=Cf
   clear hc;by_cases h96:(c.toNat:Int)=96
   ·have hx:=vQ8 hi1 hlt (by rw [<- HC.out];exact (yQ4 c 96 Ch).1 h96) HNO.out;have hE:=HE.out;rw [hx,if_neg Cf] at hE;have HE2:=hid hE;clear hx hE;go_wp2_with fail;go_quiet (fail);go_wp2_with fail
    (try simp only [Exit.inBlock,Exit.then]);refine bodyPost_ret (RC rfl _ _ _) rfl ?_
    exact⟨sQ6 HE2.out Cf,Num.kL HB.out _⟩
   ·have hno2:∀ j,1<=j->j < i+1->l[j]?≠some 96:=by
     intro j a b;by_cases hj:j=i
     ·subst hj;rw [M' hlt,<- HC.out];intro e;exact h96 ((yQ4 c 96 Ch).2 (Option.some.inj e))
     ·exact HNO.out j a Cf
    have HNO2:=hid hno2;have b96:((c.toNat:Int)==96)=false:=by simpa using h96
    clear hno2 h96;by_cases h13:(c.toNat:Int)=13
    ·go_wp2_with fail;go_roundw
     case rel=>exact⟨i+1,Gv,Cf,Cf,⟨bs,HO.out,Cf⟩,HNO2.out,HB.out⟩
     case measure=>simp only [intOf];omega
    ·have b13:((c.toNat:Int) != 13)=true:=by simpa using h13
     obtain⟨iN,hiN,hz0,hz1,hz2⟩:=info_parts Tryz.infoU8;have hown:=HO.out;have hwz:=HB.out.size;clear hcv;go_wp2_with (at_builtin;refine wpList_append_lies _ rfl (.tmp 61) (.tmp 65) 40 rfl w.heap.size 5 iN _ 1 1 Tryz.underBs hiN hz0 hz1 hz2 rfl Cf u9 bs.length (Lib.byteCells bs) rfl (hown.alloc _) ⟨wr.heap.size,0,none⟩ 1 1 [.int .u8 (c.toNat:Int)] rfl rfl (Aq (cs:=#[.int .u8 (c.toNat:Int)]) (t:=5) (fr:=(0,0)) (heap_alloc_new wr _)) Eb Cf Cu Cf Cn (wr.heap.size+1) Cm ?_);intro gg cap w3 hown3 hgrow3 hat3 hlt3;have HB3:Hid (Below w.heap.size w w3):=hid ((HB.out.alloc Cf _).grown hgrow3 Cn (fun k hk=>(hown.lt k hk).1));have HO3:=hid (PQ5 hown3 hbs);clear hown3 hgrow3 hat3 hlt3 hown hwz hz0 hz1 hz2 hiN HO;obtain⟨v3,hv3⟩:∃ v3,v3=Value.slice (some ⟨gg,0,none⟩) (bs.length+1) cap:=⟨_,rfl⟩;rw [<- hv3] at HO3 ⊢;clear hv3;go_wp2_with fail;go_roundw
     case rel=>exact⟨i+1,Gv,Cf,Cf,HO3.out,HNO2.out,HB3.out⟩
     case measure=>simp only [intOf];omega
  ·have hE:=HE.out;have hie:i=l.length:=by omega
   rw [if_pos (cQ8 (by rw [<- hie];exact HNO.out))] at hE;have HE2:=hid hE;have i1:¬ (i:Int) < (l.length:Int):=Cf
   clear hE;go_wp2_with fail
   (try simp only [Exit.inBlock,Exit.then]);refine bodyPost_ret (RC rfl _ _ _) rfl ?_
   exact⟨KQ4 HE2.out rfl,HB.out⟩
end Ck
