import Derived.Test.YtjdllofmhglmiaaGreatDoorQAJ
import Derived.Test.YtjdllofmhglmiaaGreatDoorQAO
import Derived.Test.YtjdllofmhglmiaaGreatDoorQAK
namespace Go.Proofs.YtjdllofmhglmiaaGreatDoor
open Lib(hid)
set_option linter.all false
set_option maxHeartbeats 40000000
set_option maxRecDepth 100000
namespace Ck
open Go.RowKit
variable {w w':World}
theorem mQ7 (c:UInt8):Calls Tryz.prog 293 #[i8 c.toNat] w fun e w'=>e=.returned (i8 (OH c.toNat))/\w'=w:=by
  obtain⟨B,hB⟩:∃ B,B=OH c.toNat:=⟨_,rfl⟩;rw [<- hB];have HV:=hid hB;clear hB;have hc:=c.toNat_lt;generalize c.toNat=n at *
  go_in
  go_wp2_with fail
  go_loop [5] (fun u=>∃ i:Nat,i<=16/\u=i8 (i:Int)/\(OH n < 0∨(i:Int)<=OH n)) (fun u=>16 - (intOf u).toNat)
  case atStart=>exact⟨0,Cs,rfl,Lh⟩
  case round =>
    obtain⟨i,hi,rfl,hv⟩:=hrel;by_cases hlt:i < 16
    · rcases (by omega:i=0∨i=1∨i=2∨i=3∨i=4∨i=5∨i=6∨i=7∨i=8∨i=9∨i=10∨i=11∨i=12∨i=13∨i=14∨i=15) with rfl|rfl|rfl|rfl|rfl|rfl|rfl|rfl|rfl|rfl|rfl|rfl|rfl|rfl|rfl|rfl
      all_goals
        go_wp2_with fail
        all_goals first
          | (go_ret;exact⟨Num.dE (by have h:=HV.out;unfold OH at h;simp_all;omega),rfl⟩)
          | (go_round
             case rel=>exact⟨_,Ct,rfl,by unfold OH at hv ⊢;simp_all;omega⟩
             case measure=>simp [intOf])
    · have:i=16:=by omega
      subst this;have hB:B=-1:=by rw [HV.out];unfold OH at hv ⊢;omega
      go_wp2_with fail;go_ret;exact⟨Num.dE (by first|rfl|rw [hB]),rfl⟩
def JQ4 (l:List UInt8) (base:Int):Nat->Nat->Int->Option Int
  | 0,_,n=>some n
  | f+1,k,n=>if nD l k < 0∨base<=nD l k then none else JQ4 l base f (k+1) (n*base+nD l k)
theorem OQ5 {l:List UInt8}{base:Int} (hb:base<=16):∀ (f k:Nat) (n:Int),l.length < k+f->JQ4 l base f k n=none∨f=0
  | 0,_,_,_=>.inr rfl
  | f+1,k,n,h=>by
    left
    unfold JQ4;by_cases hd:nD l k < 0∨base<=nD l k
    · rw [Bb hd]
    · rw [Bc hd]
      have hk:k < l.length:=by
        rcases Nat.lt_or_ge k l.length with x|x
        · exact x
        · exact absurd (show nD l k < 0∨base<=nD l k by right;unfold nD;rw [Bc Cs];omega) hd
      rcases OQ5 (l:=l) hb f (k+1) (n*base+nD l k) Cs with h1|h1
      · exact h1
      · subst h1;omega
theorem OQ4 {l:List UInt8}{base:Int} (hb0:0<=base) (hb:base<=16):∀ (f k:Nat) (n x:Int) (i:Nat),0<=n->n < 16 ^ i->JQ4 l base f k n=some x->0<=x/\x < 16 ^ (i+f)
  | 0,_,n,x,i,h0,h1,h=>by cases h;exact⟨h0,h1⟩
  | f+1,k,n,x,i,h0,h1,h=>by
    unfold JQ4 at h;split at h
    · cases h
    · rename_i hd
      have e:i+(f+1)=i+1+f:=Cs
      rw [e];have hm:n*base<=n*16:=Int.mul_le_mul_of_nonneg_left hb h0;have hm0:0<=n*base:=Int.mul_nonneg h0 hb0;refine OQ4 hb0 hb f _ _ x (i+1) Cs ?_ h;rw [Int.pow_succ];omega
theorem UQ5 {l:List UInt8}{base:Int}:∀ (f:Nat) (k:Nat) (o:List UInt8) (n:Int),(JQ4 l base f k n=none->(TA l base f ⟨k,o,false⟩ n).2.bad=true/\(TA l base f ⟨k,o,false⟩ n).1=0)/\(∀ x,JQ4 l base f k n=some x->TA l base f ⟨k,o,false⟩ n=(x,⟨k+f,o,false⟩))
  | 0,k,o,n=>⟨fun h=>Do,fun x h=>by cases h;rfl⟩
  | f+1,k,o,n=>by
    unfold JQ4 TA;by_cases hd:nD l k < 0∨base<=nD l k
    · rw [Bb hd,Bb hd]
      exact⟨fun _=>⟨rfl,rfl⟩,fun x h=>Do⟩
    · rw [Bc hd,Bc hd]
      obtain⟨h1,h2⟩:=UQ5 (l:=l) (base:=base) f (k+1) o (n*base+nD l k);exact⟨h1,fun x h=>by rw [h2 x h];simp;omega⟩
def xQ6 (o:Option Int):Int:=match o with|none=>-1|some x=>x
theorem QQ4 (l:List UInt8) (p cnt:Nat) (base:Int) (hl:l.length<=1048576) (hp:p<=1048580) (hc:cnt=2∨cnt=3∨cnt=4∨cnt=8) (hb:base=8∨base=16) :
    Calls Tryz.prog 282 #[.string ⟨l.toArray⟩,i8 (p:Int),i8 (cnt:Int),i8 base] w fun e w'=>e=.returned (i8 (xQ6 (JQ4 l base cnt p 0)))/\w'=w:=by
  obtain⟨T,hT⟩:∃ T,T=JQ4 l base cnt p 0:=⟨_,rfl⟩;rw [<- hT];by_cases hsh:l.length < p+cnt
  · have hT:T=none:=by
      rw [hT];rcases OQ5 (l:=l) (base:=base) Cs cnt p 0 hsh with h|h
      · exact h
      · omega
    rw [hT];have i0:(l.length:Int) - (p:Int) < (cnt:Int):=Cs
    clear hc hb
    go_in
    exact zaq
  · have i0:¬ (l.length:Int) - (p:Int) < (cnt:Int):=by omega
    have HT:=hid hT;have HS:=hid hsh;have HC:=hid hc;have HB:=hid hb;have hc8:cnt<=8:=Cs
    have hb16:0<=base/\base<=16:=Cs
    clear hT hsh hc hb
    go_in
    go_wp2_with fail
    go_loop [9,10] (fun u9 u10=>∃ (i:Nat) (n:Int),u9=i8 n/\u10=i8 (i:Int)/\i<=cnt/\JQ4 l base (cnt - i) (p+i) n=T/\0<=n/\n < 16 ^ i) (fun _ u=>cnt - (intOf u).toNat)
    case atStart=>exact⟨0,0,rfl,rfl,Cs,HT.out.symm,Cs,Ct⟩
    case round =>
      obtain⟨i,n,rfl,rfl,hi,hu,hn0,hn1⟩:=hrel;have HU:=hid hu;have HN:=hid hn1;have hn2:n < 4294967296:=by
        have:i=0∨i=1∨i=2∨i=3∨i=4∨i=5∨i=6∨i=7∨i=8:=Cs
        rcases this with rfl|rfl|rfl|rfl|rfl|rfl|rfl|rfl|rfl <;> (simp at hn1;omega)
      clear hu hn1;by_cases hlt:i < cnt
      · obtain⟨m,hm⟩:∃ m,m=p+i:=⟨_,rfl⟩
        have HM:=hid hm;have hml:m < l.length:=by have:=HS.out;omega
        have hq:nD l m=OH (l[m]).toNat:=by unfold nD Num.bat;rw [Bb hml,O' hml];rfl
        have HQ:=hid hq;have j1:(p:Int)+(i:Int)=(m:Int):=Cs
        have j2:(0:Int)<=(m:Int):=Cs
        have j3:(m:Int) < (l.length:Int):=Cs
        have j0:(i:Int) < (cnt:Int):=Cs
        have HD:Hid (JQ4 l base (cnt - i) m n=if nD l m < 0∨base<=nD l m then none else JQ4 l base (cnt - (i+1)) (p+(i+1)) (n*base+nD l m)):=hid (by
          obtain⟨g,hg⟩:∃ g,cnt - i=g+1:=⟨cnt - i - 1,Cs⟩;have e1:cnt - (i+1)=g:=Cs
          have e2:p+(i+1)=m+1:=Cs
          rw [hg,e1,e2]
          rfl)
        have hw0:wrap64 (l[m].toNat:Int)=(l[m].toNat:Int):=by have:=l[m].toNat_lt;unfold wrap64;omega
        have hU2:=HU.out;rw [<- hm] at hU2;have HU2:=hid hU2;clear hm hq hU2;go_wp2_with fail;refine (mQ7 l[m]).mono ?_;rintro e w2 ⟨rfl,rfl⟩;clear hw0;have hd:=XR (l[m]).toNat;have hq:=HQ.out;generalize OH (l[m]).toNat=d at *;by_cases h0:d < 0
        · have hT:T=none:=by rw [<- HU2.out,HD.out,hq,Bb (.inl h0)]
          have HTT:=hid hT;clear hT hq;go_wp2_with fail;go_ret;exact⟨by rw [HTT.out];rfl,rfl⟩
        · by_cases h1:base<=d
          · have hT:T=none:=by rw [<- HU2.out,HD.out,hq,Bb (.inr h1)]
            have HTT:=hid hT;clear hT hq;go_wp2_with fail;go_ret;exact⟨by rw [HTT.out];rfl,rfl⟩
          · have hr:=HD.out
            rw [hq,Bc Cs,HU2.out] at hr;have HR:=hid hr;have hm0:0<=n*base:=Int.mul_nonneg hn0 hb16.1;have hm1:n*base<=n*16:=Int.mul_le_mul_of_nonneg_left hb16.2 hn0;obtain⟨y,hy⟩:∃ y,y=n*base:=⟨_,rfl⟩;have HY:=hid hy;rw [<- hy] at hm0 hm1;have hy2:IntKind.i64.wrap (n*base)=y:=by rw [<- HY.out];simp [IntKind.wrap,IntKind.bits,IntKind.signed];omega
            clear hr hq hy;go_wp2_with fail
            go_round
            case rel=>exact⟨i+1,y+d,rfl,Eh,Cs,by rw [HR.out,HY.out],Cs,by have:=HN.out;rw [Int.pow_succ];omega⟩
            case measure=>simp only [intOf];omega
      · have hie:i=cnt:=by omega
        subst hie;have hT:some n=T:=by rw [<- HU.out,Nat.sub_self];rfl
        have HTT:=hid hT;clear hT;go_wp2_with fail;go_ret;exact⟨by rw [<- HTT.out];rfl,rfl⟩
end Ck
namespace Ck
open Go.RowKit
variable {w w':World}
theorem rQ8 (z:Int) (W:World) (b:Nat) (h0:0<=z) (h1:z < 256) (hb:W.heap.size=b) :
    Sem.run Tryz.prog (convert 32 9 (.slice (some (y8 b 0)) 1 1)) (W.alloc (.cells #[Value.int .u8 z] 5))=.ok (.string ⟨[by8 z].toArray⟩) (W.alloc (.cells #[Value.int .u8 z] 5)):=by
  subst hb;exact jQ5 W [z] Cv 1 rfl Cs
theorem gQ7 (v:Int):(fmR v).length<=4:=by
  unfold fmR
  repeat' split
  all_goals simp
def Sm (e:Ending):Prop:=∃ s:List UInt8,e=.returned (.string ⟨s.toArray⟩)/\s.length<=4
theorem ZQ5 (n:Int) (m:UInt8) (h0:0<=n) (h1:n < 256):Calls Tryz.prog 283 #[i8 n,.int .u8 (m.toNat:Int)] w fun e w'=>Sm e/\Below w.heap.size w w':=by
  have hc:=hid (rQ8 n w w.heap.size h0 h1 rfl);have hF:=hid (cQ5 (w:=w) n);by_cases hm:(m.toNat:Int)=34
  · go_in
    go_wp2_with fail;rw [hc.out];go_wp2_with fail;go_ret;exact⟨⟨[by8 n],rfl,Cu⟩,(N' _ _).alloc (C' _) _⟩
  · go_in
    go_wp2_with fail;refine hF.out.mono ?_;rintro e w2 ⟨rfl,hb⟩;go_wp2_with fail;go_ret;exact⟨⟨fmR n,rfl,gQ7 n⟩,hb⟩
def nQ5:List UInt8:=[97,98,102,110,114,116,118,92]
def xQ5 (l:List UInt8) (m:UInt8) (p:Nat):Nat :=
  if h:p+1 < l.length then
    if 0<=Lib.indexByte nQ5 l[p+1] then 2
    else if l[p+1]=m then 2
    else if l[p+1]=120 then (match JQ4 l 16 2 (p+2) 0 with|none=>0|some _=>4)
    else if l[p+1]=117∨l[p+1]=85 then (match JQ4 l 16 (if l[p+1]=85 then 8 else 4) (p+2) 0 with|none=>0|some n=>if EQ4 n then 2+(if l[p+1]=85 then 8 else 4) else 0)
    else (match JQ4 l 8 3 (p+1) 0 with|none=>0|some n=>if n<=255 then 4 else 0)
  else 0
def ixV (n:Int):Int:=if n=97 then 0 else if n=98 then 1 else if n=102 then 2 else if n=110 then 3 else if n=114 then 4 else if n=116 then 5 else if n=118 then 6 else if n=92 then 7 else -1
theorem nQ9:∀ c:Fin 256,Lib.indexByte nQ5 (UInt8.ofNat c.val)=ixV c.val:=Ef
theorem QQ9 (c:UInt8):Lib.indexByte nQ5 c=ixV c.toNat:=by
  have h:=nQ9 ⟨c.toNat,c.toNat_lt⟩;simpa using h
theorem yQ4 (c:UInt8) (n:Nat) (h:n < 256):(c.toNat:Int)=n↔c=UInt8.ofNat n:=by
  constructor
  · intro e
    have:c.toNat=n:=Cs
    rw [<- this];simp
  · rintro rfl
    simp;omega
def It (L:Nat) (e:Ending):Prop:=∃ s:List UInt8,e=.returned (.agg #[i8 (L:Int),.string ⟨s.toArray⟩])/\s.length<=4
theorem vQ4 {W:World}{r:Nat}{u v:Value}{T:TypeId} (h:W.heap[r]?=some (.cells #[u,v] T (0,0))) (x y:Value):((W.setCell (y8 r 0) x).setCell (y8 r 1) y).heap[r]?=some (.cells #[x,y] T (0,0)):=by
  have h2:=heap_setCell_same (W.setCell (y8 r 0) x) r 1 _ _ y (heap_setCell_same W r 0 _ _ x h);simp only [Q',Z',Aa] at h2;exact h2
theorem Tryz.infoIt:(Tryz.prog.info? 167).map (·.size)=some 2:=Cw
theorem uQ4 {fn:Func} (hf:fn.results=#[.cell 6 167]) {R:Ending->World->Prop}{a:Act}{W:World}{r:Nat}{x y:Value} (ht:a.tmps.getD 6 undef=p8 r) (hd:a.defers=[]) (c:W.heap[r]?=some (.cells #[x,y] 167 (0,0))) (hR:R (.returned (.agg #[x,y])) W):bodyPost Tryz.prog fn R .ret a W:=by
  refine Ca (v:=.agg #[x,y]) ?_ hd hR;have h:=run_loadVar_row (P:=Tryz.prog) W r _ 167 #[x,y] (0,0) _ c Tryz.underlying167 rfl Tryz.infoIt;have ht2:a.tmps[6]?.getD undef=p8 r:=by simpa using ht
  unfold results;rw [hf];simp [ht2,asAddr,h]
theorem PP (l:List UInt8) (m:UInt8) (p:Nat) (hl:l.length<=1048576) (hp:p < l.length):Calls Tryz.prog 273 #[.string ⟨l.toArray⟩,i8 (p:Int),.int .u8 (m.toNat:Int)] w fun e w'=>It (xQ5 l m p) e/\Below w.heap.size w w':=by
  obtain⟨T,hT⟩:∃ T,T=xQ5 l m p:=⟨_,rfl⟩;rw [<- hT];by_cases h1:p+1 < l.length
  · obtain⟨q,hq⟩:∃ q,q=p+1:=⟨_,rfl⟩
    have hql:q < l.length:=Cs
    have HQ:=hid hq;have j1:(p:Int)+1=(q:Int):=Cs
    have j2:(0:Int)<=(q:Int):=Cs
    have j3:(q:Int) < (l.length:Int):=Cs
    have HE:Hid (T=if 0<=Lib.indexByte nQ5 l[q] then 2 else if l[q]=m then 2 else if l[q]=120 then (match JQ4 l 16 2 (p+2) 0 with|none=>0|some _=>4)
      else if l[q]=117∨l[q]=85 then (match JQ4 l 16 (if l[q]=85 then 8 else 4) (p+2) 0 with|none=>0|some n=>if EQ4 n then 2+(if l[q]=85 then 8 else 4) else 0)
      else (match JQ4 l 8 3 (p+1) 0 with|none=>0|some n=>if n<=255 then 4 else 0)):=hid (by subst hq;rw [hT];unfold xQ5;rw [dif_pos h1])
    obtain⟨c,hc⟩:∃ c,c=l[q]:=⟨_,rfl⟩;rw [<- hc] at HE;have hcq:(l[q].toNat:Int)=(c.toNat:Int):=by rw [hc]
    have hc256:=c.toNat_lt;clear hT h1 hq hc
    go_in
    go_upto_region 6 with fail;obtain⟨W,hW⟩:∃ W,W=(w.alloc (Obj.cells #[i8 0,Value.string ⟨#[]⟩] 167)).alloc (Obj.cells #[Value.int IntKind.u8 7,Value.int IntKind.u8 8,Value.int IntKind.u8 12,Value.int IntKind.u8 10,Value.int IntKind.u8 13,Value.int IntKind.u8 9,Value.int IntKind.u8 11,Value.int IntKind.u8 92] 5):=⟨_,rfl⟩;rw [<- hW];have hs:∀ i,i < 8->W.cell? (y8 (w.heap.size+1) i)=some (.int .u8 (([7,8,12,10,13,9,11,92]:List Int).getD i 0)):=by
      intro i hi;unfold World.cell?;rw [hW,show w.heap.size+1=(w.alloc (Obj.cells #[i8 0,Value.string ⟨#[]⟩] 167)).heap.size by simp,B8];rcases (by omega:i=0∨i=1∨i=2∨i=3∨i=4∨i=5∨i=6∨i=7) with rfl|rfl|rfl|rfl|rfl|rfl|rfl|rfl <;> rfl
    have hR:W.heap[w.heap.size]?=some (Obj.cells #[i8 0,Value.string ⟨#[]⟩] 167 (0,0)):=by
      rw [hW,Af _ _ _ Cu,B8]
    have hz:W.heap.size=w.heap.size+2:=by rw [hW];simp
    have hb:Below w.heap.size w W:=by rw [hW];exact ((N' _ _).alloc (C' _) _).alloc Cu _
    have HS:=hid hs;have HR:=hid hR;have HB:=hid hb;have HZ:=hid hz;have hIX:Lib.indexByte nQ5 c=ixV c.toNat:=QQ9 c;have HX:=hid hIX;obtain⟨c0,c1,f0,f1⟩:=tA hR;have a0:∀ O,(W.alloc O).cell? (y8 w.heap.size 0)=some (i8 0):=fun O=>(((N' W.heap.size W).alloc (C' _) O).cell Cv).trans c0
    have a1:∀ O,(W.alloc O).cell? (y8 w.heap.size 1)=some (.string ⟨#[]⟩):=fun O=>(((N' W.heap.size W).alloc (C' _) O).cell Cv).trans c1
    have a2:∀ O,(W.alloc O).frozen? (y8 w.heap.size 0)=false:=fun O=>(((N' W.heap.size W).alloc (C' _) O).frozen Cv).trans f0
    have a3:∀ O,(W.alloc O).frozen? (y8 w.heap.size 1)=false:=fun O=>(((N' W.heap.size W).alloc (C' _) O).frozen Cv).trans f1
    clear hW hs hR hz hb hIX;go_wp2_with fail
    go_loop [10] (fun u=>∃ i:Nat,i<=8/\u=i8 (i:Int)/\(ixV c.toNat < 0∨(i:Int)<=ixV c.toNat)) (fun u=>8 - (intOf u).toNat)
    case atStart=>exact⟨0,Cs,rfl,by unfold ixV;omega⟩
    case round =>
      obtain⟨i,hi,rfl,hv⟩:=hrel;by_cases hlt:i < 8
      · have s0:=HS.out i hlt
        rcases (by omega:i=0∨i=1∨i=2∨i=3∨i=4∨i=5∨i=6∨i=7) with rfl|rfl|rfl|rfl|rfl|rfl|rfl|rfl
        all_goals
          simp only [List.getD_cons_zero,List.getD_cons_succ] at s0;go_wp2_with fail
          all_goals first
            | (go_round
               case rel=>exact⟨_,Ct,rfl,by unfold ixV at hv ⊢;simp_all;omega⟩
               case measure=>simp [intOf])
            | (rw [rQ8 _ _ _ Cs Cs Cu]
               go_wp2_with fail;have hT:T=2:=by rw [HE.out,Bb (by rw [HX.out];unfold ixV;first|(simp_all;done)|(simp_all;omega))]
               exact uQ4 rfl rfl rfl (vQ4 Gs _ _) ⟨⟨_,by rw [hT];rfl,Cu⟩,((HB.out.alloc Du _).setCell (C' _) _).setCell (C' _) _⟩)
      · have hi8:i=8:=by omega
        subst hi8;have hix:¬ 0<=Lib.indexByte nQ5 c:=by rw [HX.out];unfold ixV at hv ⊢;omega
        have he:=HE.out;rw [Bc hix] at he;have HE2:=hid he;clear he hix hv;by_cases hcm:c=m
        · have hT:T=2:=by rw [HE2.out,Bb hcm]
          have HT:=hid hT;subst hcm;clear hT;go_wp2_with fail;rw [rQ8 _ _ _ Cs Cs Cu];go_wp2_with fail;exact uQ4 rfl rfl rfl (vQ4 Gs _ _) ⟨⟨_,Kl,Cu⟩,((HB.out.alloc Du _).setCell (C' _) _).setCell (C' _) _⟩
        · have hne:((c.toNat:Int)==(m.toNat:Int))=false:=by simp;intro h;exact hcm (Ay.1 Cs)
          have he:=HE2.out;rw [Bc hcm] at he;have HE3:=hid he;clear he hcm;obtain⟨q2,hq2⟩:∃ q2,q2=p+2:=⟨_,rfl⟩;have HQ2:=hid hq2;have k2:(p:Int)+2=(q2:Int):=Cs
          have hq2l:q2<=1048580:=Cs
          rw [<- hq2,<- HQ.out] at HE3;clear hq2;by_cases hx:(c.toNat:Int)=120
          · have hcx:c=120:=(yQ4 c 120 Ct).1 hx
            have HN:=hid (QQ4 (w:=W) l q2 2 16 hl hq2l (.inl rfl) (.inr rfl));have he:=HE3.out;rw [Bb hcx] at he;have HE4:=hid he;clear he;go_wp2_with fail;refine HN.out.mono ?_;rintro e w2 ⟨rfl,rfl⟩;cases hn:JQ4 l 16 2 q2 0 with
            | none =>
              have hT:T=0:=by rw [HE4.out,hn]
              exact zfc
            | some n =>
              have hT:T=4:=by rw [HE4.out,hn]
              have HT:=hid hT;have hbd:=OQ4 (l:=l) Ct Ct 2 q2 0 n 0 Cs Ct hn;have n0:=hbd.1;have n1:n < 256:=by have:=hbd.2;simp at this;omega
              clear hbd hT hn;simp only [xQ6];go_wp2_with fail;refine (ZQ5 n m n0 n1).mono ?_;rintro e w3 ⟨⟨s,rfl,hs4⟩,hb3⟩;have hR3:=(hb3.block w.heap.size Du).trans HR.out;obtain⟨d0,d1,g0,g1⟩:=tA hR3;have HB3:=hid (HB.out.trans (hb3.mono Du));have HR3:=hid hR3;clear hb3 c0 c1 f0 f1 a0 a1 a2 a3 hR3;go_wp2_with fail;exact uQ4 rfl rfl rfl (vQ4 HR3.out _ _) ⟨⟨s,Kl,hs4⟩,(HB3.out.setCell (C' _) _).setCell (C' _) _⟩
          · have hcx:c≠120:=fun h=>hx ((yQ4 c 120 Ct).2 h)
            have he:=HE3.out;rw [Bc hcx] at he;have HE4:=hid he;have hx1:((c.toNat:Int)==120)=false:=Hm
            clear he hcx hx;by_cases hx:(c.toNat:Int)=117
            · have hcx:c=117:=(yQ4 c 117 Ct).1 hx
              have HN:=hid (QQ4 (w:=W) l q2 4 16 hl hq2l Ct (.inr rfl));have he:=HE4.out;rw [Bb (by simp [hcx]),hcx] at he;have HE5:=hid he;clear he;go_wp2_with fail;refine HN.out.mono ?_;rintro e w2 ⟨rfl,rfl⟩;cases hn:JQ4 l 16 4 q2 0 with
              | none =>
                exact ze9
              | some n =>
                have HT:Hid (T=if EQ4 n=true then 6 else 0):=hid Ji;have n0:=(OQ4 (l:=l) Ct Ct 4 q2 0 n 0 Cs Ct hn).1;clear hn;simp only [xQ6];go_wp2_with fail;refine (tQ5 n).mono ?_;rintro e w2 ⟨rfl,rfl⟩;cases hm:EQ4 n with
                | false =>
                  exact zff
                | true =>
                  have hT:=hid (show T=6 by rw [HT.out,hm];rfl);exact za1
            · by_cases hy:(c.toNat:Int)=85
              · have hx:=hy
                have hcx:c=85:=(yQ4 c 85 Ct).1 hx;have HN:=hid (QQ4 (w:=W) l q2 8 16 hl hq2l Ct (.inr rfl));have he:=HE4.out;rw [Bb (by simp [hcx]),hcx] at he;have HE5:=hid he;clear he;go_wp2_with fail;refine HN.out.mono ?_;rintro e w2 ⟨rfl,rfl⟩;cases hn:JQ4 l 16 8 q2 0 with
                | none =>
                  exact ze9
                | some n =>
                  have HT:Hid (T=if EQ4 n=true then 10 else 0):=hid Ji;have n0:=(OQ4 (l:=l) Ct Ct 8 q2 0 n 0 Cs Ct hn).1;clear hn;simp only [xQ6];go_wp2_with fail;refine (tQ5 n).mono ?_;rintro e w2 ⟨rfl,rfl⟩;cases hm:EQ4 n with
                  | false =>
                    exact zff
                  | true =>
                    have hT:=hid (show T=10 by rw [HT.out,hm];rfl);exact za1
              · have h1:c≠117:=fun h=>hx ((yQ4 c 117 Ct).2 h)
                have h2:c≠85:=fun h=>hy ((yQ4 c 85 Ct).2 h)
                have HN:=hid (QQ4 (w:=W) l q 3 8 hl Cs Ct (.inl rfl));have he:=HE4.out;rw [Bc (by simp [h1,h2])] at he;have HE5:=hid he;have k3:((c.toNat:Int)==117)=false:=Hm
                have k4:((c.toNat:Int)==85)=false:=by simpa using hy
                clear he h1 h2 hx hy;go_wp2_with fail;refine HN.out.mono ?_;rintro e w2 ⟨rfl,rfl⟩;cases hn:JQ4 l 8 3 q 0 with
                | none =>
                  have hT:T=0:=by rw [HE5.out,hn]
                  exact zfc
                | some n =>
                  have HT:Hid (T=if n<=255 then 4 else 0):=hid (by rw [HE5.out,hn]);have n0:=(OQ4 (l:=l) Ct Ct 3 q 0 n 0 Cs Ct hn).1;clear hn;simp only [xQ6];by_cases hn:n<=255
                  · have hT:=hid (show T=4 by rw [HT.out,Bb hn])
                    go_wp2_with fail;refine (ZQ5 n m n0 Cs).mono ?_;rintro e w3 ⟨⟨s,rfl,hs4⟩,hb3⟩;have hR3:=(hb3.block w.heap.size Du).trans HR.out;obtain⟨d0,d1,g0,g1⟩:=tA hR3;have HB3:=hid (HB.out.trans (hb3.mono Du));have HR3:=hid hR3;clear hb3 c0 c1 f0 f1 a0 a1 a2 a3 hR3;go_wp2_with fail;exact uQ4 rfl rfl rfl (vQ4 HR3.out _ _) ⟨⟨s,by rw [hT.out];rfl,hs4⟩,(HB3.out.setCell (C' _) _).setCell (C' _) _⟩
                  · have hT:=hid (show T=0 by rw [HT.out,Bc hn])
                    go_wp2_with fail;exact uQ4 rfl rfl rfl (vQ4 HR.out _ _) ⟨⟨[],by rw [hT.out];rfl,Cu⟩,(HB.out.setCell (C' _) _).setCell (C' _) _⟩
  · have hT:T=0:=by rw [hT];unfold xQ5;rw [dif_neg h1]
    have hTT:=hid hT;have i0:(l.length:Int)<=(p:Int)+1:=Cs
    clear hT
    go_in
    go_wp2_with fail
    go_returns
    exact⟨⟨[],by rw [hTT.out];rfl,Cu⟩,(N' _ _).alloc (C' _) _⟩
end Ck
namespace Ck
open Go.RowKit
variable {w w':World}
def itN (l:List UInt8) (m:UInt8) (p:Nat):Nat:=if h:p < l.length then (if l[p]=92 then xQ5 l m p else if l[p]=10 then 0 else if m=34 then 1 else (vB l p).2.toNat) else 0
theorem bQ9 (l:List UInt8):(dec l).2<=4:=by
 by_cases h:l=[]
 ·subst h;decide
 ·rw [xQ7 h];rcases Lib.decodeN_shape l.length (l.getD 0 0).toNat (l.getD 1 0).toNat (l.getD 2 0).toNat (l.getD 3 0).toNat with ⟨c,e⟩|⟨c1,c2,c3,cv,e⟩|⟨c1,c2,c3,c4,cv,cs,e⟩|⟨c1,c2,c3,c4,c5,cv,cw,e⟩|e <;> rw [e] <;> simp
theorem DQ6 {l:List UInt8}{p:Nat} (h:p < l.length):0<=(vB l p).2/\(vB l p).2<=4:=by
 have:=bQ9 (l.drop p);unfold vB;rw [Bc Cs,Ai];split
 ·simp
 ·simp only [];omega
theorem gQ6 (l:List UInt8) (m:UInt8) (p:Nat) (hl:l.length<=1048576) (hp:p < l.length):Calls Tryz.prog 252 #[.string ⟨l.toArray⟩,i8 (p:Int),.int .u8 (m.toNat:Int)] w fun e w'=>It (itN l m p) e/\Below w.heap.size w w':=by
 obtain⟨T,hT⟩:∃ T,T=itN l m p:=⟨_,rfl⟩;rw [<- hT];obtain⟨c,hc⟩:∃ c,c=l[p]:=⟨_,rfl⟩;have hE:T=if c=92 then xQ5 l m p else if c=10 then 0 else if m=34 then 1 else (vB l p).2.toNat:=by rw [hT];unfold itN;rw [dif_pos hp,<- hc]
 have HE:=hid hE;have hcq:(l[p].toNat:Int)=(c.toNat:Int):=by rw [hc]
 have j2:(0:Int)<=(p:Int):=Cs
 have j3:(p:Int) < (l.length:Int):=Cs
 have hR:=B8 w (Obj.cells #[i8 0,Value.string ⟨#[]⟩] 167);have hb:=(N' w.heap.size w).alloc (C' _) (Obj.cells #[i8 0,Value.string ⟨#[]⟩] 167);have hz:(w.alloc (Obj.cells #[i8 0,Value.string ⟨#[]⟩] 167)).heap.size=w.heap.size+1:=Cu
 clear hT hc hE
 go_in
 go_upto_region 1 with fail;generalize w.alloc (Obj.cells #[i8 0,Value.string ⟨#[]⟩] 167)=W at *;obtain⟨c0,c1,f0,f1⟩:=tA hR;have HR:=hid hR;have HB:=hid hb;have HZ:=hid hz;clear hR hb hz;by_cases h92:(c.toNat:Int)=92
 ·have hT:T=xQ5 l m p:=by rw [HE.out,Bb (show c=92 from (yQ4 c 92 Ct).1 h92)]
  have HT:=hid hT;clear hT;go_wp2_with fail;refine (PP l m p hl hp).mono ?_;rintro e w3 ⟨⟨s,rfl,hs4⟩,hb3⟩;have hR3:=(hb3.block w.heap.size Du).trans HR.out;obtain⟨d0,d1,g0,g1⟩:=tA hR3;have HB3:=hid (HB.out.trans (hb3.mono Du));have HR3:=hid hR3;clear hb3 c0 c1 f0 f1 hR3;rw [<- HT.out];go_wp2_with fail;exact uQ4 rfl rfl rfl (vQ4 HR3.out _ _) ⟨⟨s,rfl,hs4⟩,(HB3.out.setCell (C' _) _).setCell (C' _) _⟩
 ·have he:=HE.out;rw [Bc (fun h:c=92=>h92 ((yQ4 c 92 Ct).2 h))] at he;have HE2:=hid he;clear he;by_cases h10:(c.toNat:Int)=10
  ·have hT:T=0:=by rw [HE2.out,Bb (show c=10 from (yQ4 c 10 Ct).1 h10)]
   have HT:=hid hT;clear hT;go_wp2_with fail;exact uQ4 rfl rfl rfl (vQ4 HR.out _ _) ⟨⟨[],Kl,Cu⟩,(HB.out.setCell (C' _) _).setCell (C' _) _⟩
  ·have he:=HE2.out;rw [Bc (fun h:c=10=>h10 ((yQ4 c 10 Ct).2 h))] at he;have HE3:=hid he;clear he;by_cases hm:(m.toNat:Int)=34
   ·have hT:T=1:=by rw [HE3.out,Bb (show m=34 from (yQ4 m 34 Ct).1 hm)]
    have HT:=hid hT;have j5:(p:Int)+1<=(l.length:Int):=Cs
    clear hT;go_wp2_with fail;refine uQ4 rfl rfl rfl (vQ4 HR.out _ _) ⟨⟨(l.drop p).take 1,?_,Cv⟩,(HB.out.setCell (C' _) _).setCell (C' _) _⟩;rw [HT.out]
    rfl
   ·have hT:T=(vB l p).2.toNat:=by rw [HE3.out,Bc (fun h:m=34=>hm ((yQ4 m 34 Ct).2 h))]
    have HT:=hid hT;have hrd:=DQ6 hp;have hrl:=FQ5 (l:=l) (p:=p) hp;clear hT;go_wp2_with fail;refine (IQ5 l p Cs).mono ?_;rintro e w3 ⟨rfl,hb3⟩;have hR3:=(hb3.block w.heap.size Du).trans HR.out;obtain⟨d0,d1,g0,g1⟩:=tA hR3;have HB3:=hid (HB.out.trans (hb3.mono Du));have HR3:=hid hR3;clear hb3 c0 c1 f0 f1 hR3;generalize (vB l p).1=r1 at *;obtain⟨n,hn⟩:=Ad hrd.1;rw [hn] at hrd hrl HT ⊢;have hn4:n<=4:=Cs
    have hpl:p+n<=l.length:=by
     by_cases h0:n=0
     ·omega
     ·have:=hrl Cs;omega
    obtain⟨q,hq⟩:∃ q,q=p+n:=⟨_,rfl⟩;have j4:(p:Int)+(n:Int)=(q:Int):=Cs
    have j5:(q:Int)<=(l.length:Int):=Cs
    have j6:(p:Int)<=(q:Int):=Cs
    have HQ:=hid hq;clear hrd hrl hn hq hpl;go_wp2_with fail;refine uQ4 rfl rfl rfl (vQ4 HR3.out _ _) ⟨⟨(l.drop p).take n,?_,Cv⟩,(HB3.out.setCell (C' _) _).setCell (C' _) _⟩;rw [HT.out,Ai,show q - p=n from Kv]
end Ck
namespace Ck
open Go.RowKit
theorem XQ5 {n:Int}:(1114111 < n∨sF n=[])↔¬ (EQ4 n=true)∨n < 0/\sF n=[]:=by
 have hv:Lib.validRune n=EQ4 n:=by unfold Lib.validRune EQ4;rw [Bg];simp;omega
 have he:EQ4 n=true->sF n≠[]:=by
  intro h;unfold sF;rw [hv,Bb h];unfold Utf8.encode
  dsimp only
  repeat' split
  all_goals simp
 cases hm:EQ4 n with
 | true =>
  have h1:0<=n/\n<=1114111:=by simp [EQ4] at hm;omega
  constructor
  ·rintro (h|h)
   ·omega
   ·exact absurd h (he hm)
  ·rintro (h|h)
   ·exact absurd rfl h
   ·omega
 | false =>
  have:sF n=[]:=by unfold sF;rw [hv,hm];rfl
  simp [this]
theorem yQ6 (m:UInt8) (n:Int) (ch:Bool) (q:Qs):(ED m n ch q).k=q.k:=by
 unfold ED
 repeat' split
 all_goals rfl
theorem hQ5 (m:UInt8) (n:Int) (ch:Bool) (q:Qs) (h:q.bad=true):(ED m n ch q).bad=true:=by
 unfold ED
 repeat' split
 all_goals first|exact h|rfl
theorem LQ5 (m:UInt8) (n:Int) (q:Qs) (h0:0<=n) (h1:n < 256):(ED m n false q).bad=q.bad:=by
 have hm:EQ4 n=true:=by unfold EQ4;simp;omega
 unfold ED;split
 ·rfl
 ·rw [Bc];rw [XQ5];rintro (h|h)
  ·exact h hm
  ·omega
theorem cQ6 (m:UInt8) (n:Int) (q:Qs) (h0:0<=n) (hq:q.bad=false):(ED m n true q).bad=!EQ4 n:=by
 unfold ED;rw [Bc Cu];cases hm:EQ4 n with
 | true =>
  rw [Bc]
  ·exact hq
  ·rw [XQ5];rintro (h|h)
   ·exact h hm
   ·omega
 | false =>
  rw [Bb (XQ5.2 (.inl Ky))]
  rfl
theorem GQ9 {l:List UInt8}{m:UInt8}{p:Nat} (o:List UInt8):(xQ5 l m p=0/\(zC l m ⟨p+1,o,false⟩).bad=true)∨(0 < xQ5 l m p/\(zC l m ⟨p+1,o,false⟩).bad=false/\(zC l m ⟨p+1,o,false⟩).k=p+xQ5 l m p):=by
 unfold xQ5 zC;by_cases h:p+1 < l.length
 ·rw [dif_pos h];simp only [dif_pos h];by_cases h1:0<=Lib.indexByte nQ5 l[p+1]
  ·right
   rw [Bb h1];have h1':0<=Lib.indexByte [97,98,102,110,114,116,118,92] l[p+1]:=h1;simp only [Bb h1'];exact⟨Cs,trivial,trivial⟩
  ·rw [Bc h1];have h1':¬ 0<=Lib.indexByte [97,98,102,110,114,116,118,92] l[p+1]:=h1;simp only [Bc h1'];by_cases h2:l[p+1]=m
   ·right
    rw [Bb h2];simp only [Bb h2];exact⟨Cs,trivial,trivial⟩
   ·rw [Bc h2];simp only [Bc h2];by_cases h3:l[p+1]=120
    ·rw [Bb h3];simp only [Bb h3];obtain⟨n1,n2⟩:=UQ5 (l:=l) (base:=16) 2 (p+2) o 0;cases hn:JQ4 l 16 2 (p+2) 0 with
     | none =>
      left
      exact zc6
     | some n =>
      right
      have e:=n2 n hn;have hb:=OQ4 (l:=l) Ct Ct 2 (p+2) 0 n 0 Cs Ct hn;have hb2:=hb.2;simp at hb2;rw [show p+1+1=p+2 from rfl,e];exact⟨Cu,LQ5 _ _ _ hb.1 Cs,by rw [yQ6];show p+2+2=p+4;omega⟩
    ·rw [Bc h3];simp only [Bc h3];by_cases h4:l[p+1]=85
     ·rw [Bb (.inr h4)];simp only [Bb h4];obtain⟨n1,n2⟩:=UQ5 (l:=l) (base:=16) 8 (p+2) o 0;cases hn:JQ4 l 16 8 (p+2) 0 with
      | none =>
       left
       exact zc6
      | some n =>
       have e:=n2 n hn;have hb:=OQ4 (l:=l) Ct Ct 8 (p+2) 0 n 0 Cs Ct hn;rw [show p+1+1=p+2 from rfl,e];have hc:=cQ6 m n ⟨p+2+8,o,false⟩ hb.1 rfl;exact zce
     ·simp only [Bc h4];by_cases h5:l[p+1]=117
      ·rw [Bb (.inl h5)];simp only [Bb h5];obtain⟨n1,n2⟩:=UQ5 (l:=l) (base:=16) 4 (p+2) o 0;cases hn:JQ4 l 16 4 (p+2) 0 with
       | none =>
        left
        exact zc6
       | some n =>
        have e:=n2 n hn;have hb:=OQ4 (l:=l) Ct Ct 4 (p+2) 0 n 0 Cs Ct hn;rw [show p+1+1=p+2 from rfl,e];have hc:=cQ6 m n ⟨p+2+4,o,false⟩ hb.1 rfl;exact zce
      ·rw [Bc (by rintro (h|h);exact h5 h;exact h4 h)];simp only [Bc h5];obtain⟨n1,n2⟩:=UQ5 (l:=l) (base:=8) 3 (p+1) o 0;cases hn:JQ4 l 8 3 (p+1) 0 with
       | none =>
        left
        obtain⟨e1,e2⟩:=n1 hn;exact⟨rfl,hQ5 _ _ _ _ (by simp [e1])⟩
       | some n =>
        have e:=n2 n hn;have hb:=OQ4 (l:=l) Ct Ct 3 (p+1) 0 n 0 Cs Ct hn;rw [e];by_cases h255:n<=255
        ·right
         refine⟨by simp [h255],?_,by rw [yQ6];simp [h255]⟩;rw [LQ5 _ _ _ Cs Cs];simp;omega
        ·left
         refine⟨by simp [h255],hQ5 _ _ _ _ ?_⟩;simp;omega
 ·left
  rw [dif_neg h];simp only [dif_neg h];exact⟨trivial,trivial⟩
def rdN (l:List UInt8) (m:UInt8):Nat->Nat->Nat->Option Nat
 | 0,_,_=>none
 | f+1,it,k=>if h:k < l.length then (if l[k]=m then (if m=34∨it=1 then some (k+1) else none) else if m=39/\it=1 then none else if itN l m k=0 then none else rdN l m f (it+1) (k+itN l m k)) else none
theorem NQ5 (l:List UInt8) (m:UInt8) (f it:Nat) (q:Qs) (h:q.bad=true):(jC l m f it q).1=false:=by rw [aN (.inr h)]
theorem mQ9 {l:List UInt8}{m:UInt8} (hm:m=34∨m=39):∀ (f it k:Nat) (o:List UInt8),((jC l m f it ⟨k,o,false⟩).1=(rdN l m f it k).isSome)/\∀ e,rdN l m f it k=some e->(jC l m f it ⟨k,o,false⟩).2.k=e
 | 0,it,k,o=>⟨rfl,fun e h=>Do⟩
 | f+1,it,k,o=>by
  unfold rdN jC
  dsimp only
  by_cases h:k < l.length
  ·rw [dif_pos h];simp only [dif_pos h];rw [Bc Cu];by_cases h1:l[k]=m
   ·rw [Bb h1,Bb h1];by_cases h2:m=34∨it=1
    ·rw [Bb h2];exact⟨Gg,fun e he=>by cases he;rfl⟩
    ·rw [Bc h2];exact⟨Gg,fun e he=>Le⟩
   ·rw [Bc h1,Bc h1];by_cases h3:m=39/\it=1
    ·rw [Bb h3,Bb h3];exact⟨rfl,fun e he=>Le⟩
    ·rw [Bc h3,Bc h3];by_cases h4:l[k]=92
     ·rw [Bb h4];have hi:itN l m k=xQ5 l m k:=by unfold itN;rw [dif_pos h,Bb h4]
      rw [hi];rcases GQ9 (l:=l) (m:=m) (p:=k) o with ⟨e1,e2⟩|⟨e1,e2,e3⟩
      ·rw [Bb e1];exact⟨NQ5 _ _ _ _ _ e2,fun e he=>Le⟩
      ·rw [Bc Cs];generalize zC l m ⟨k+1,o,false⟩=q at *;obtain⟨k2,o2,b2⟩:=q;simp only [] at e2 e3;subst e2 e3;exact mQ9 hm f (it+1) _ o2
     ·rw [Bc h4];have hi:itN l m k=if l[k]=10 then 0 else vD l m k:=by
       unfold itN vD;rw [dif_pos h,Bc h4];rcases hm with rfl|rfl <;> simp
      rw [hi];have hb:(PD l m ⟨k,o,false⟩).bad=(decide (vD l m k=0)||decide (l[k]=10)):=by
       unfold PD;simp [h]
      have hk:(PD l m ⟨k,o,false⟩).k=k+vD l m k:=rfl;by_cases h5:l[k]=10
      ·rw [Bb h5,Bb rfl];exact⟨NQ5 _ _ _ _ _ (by rw [hb,h5];simp),fun e he=>Le⟩
      ·rw [Bc h5];by_cases h6:vD l m k=0
       ·rw [Bb h6];exact⟨NQ5 _ _ _ _ _ (by rw [hb,h6];simp),fun e he=>Le⟩
       ·rw [Bc h6];have e2:(PD l m ⟨k,o,false⟩).bad=false:=by rw [hb];simp [h5,h6]
        generalize PD l m ⟨k,o,false⟩=q at *;obtain⟨k2,o2,b2⟩:=q;simp only [] at e2 hk;subst e2 hk;exact mQ9 hm f (it+1) _ o2
  ·rw [dif_neg h];simp only [dif_neg h];exact⟨rfl,fun e he=>Le⟩
end Ck
namespace Ck
open Go.RowKit
def VQ4 (l:List UInt8):Option Nat :=
 if h:0 < l.length then
  (if l[0]=96 then (if Lib.indexByte (l.drop 1) 96 < 0 then none else some ((Lib.indexByte (l.drop 1) 96).toNat+2))
  else if l[0]=34∨l[0]=39 then rdN l l[0] l.length 0 1 else none)
 else none
theorem MQ8:∀ c:Fin 256,Lib.indexByte ([39,34,96]:List UInt8) (UInt8.ofNat c.val)=if c.val=39 then 0 else if c.val=34 then 1 else if c.val=96 then 2 else -1:=Ef
theorem zQ7 (c:UInt8):Lib.indexByte ([39,34,96]:List UInt8) c < 0↔¬ (c=39∨c=34∨c=96):=by
 have h:=MQ8 ⟨c.toNat,c.toNat_lt⟩;simp only [UInt8.ofNat_toNat] at h;rw [h];have e1:=yQ4 c 39 Ct;have e2:=yQ4 c 34 Ct;have e3:=yQ4 c 96 Ct;rw [show c=39↔(c.toNat:Int)=39 from e1.symm,show c=34↔(c.toNat:Int)=34 from e2.symm,show c=96↔(c.toNat:Int)=96 from e3.symm]
 repeat' split
 all_goals omega
end Ck
