import Derived.Test.YtfmpphplbdojbaaGreatDoorQBR
import Derived.Test.YtfmpphplbdojbaaGreatDoorQBJ
import Derived.Test.YtfmpphplbdojbaaGreatDoorQBK
import Derived.Test.YtfmpphplbdojbaaGreatDoorQBO
namespace Go.Proofs.YtfmpphplbdojbaaGreatDoor
open Lib(hid)
set_option linter.all false
set_option maxHeartbeats 40000000
set_option maxRecDepth 100000
namespace Ck
open Go.RowKit
open Rnd (Tx WQ0 cQ1 BQ1 fQ1 tx tki bQ1)
variable {w w':World}
theorem u8e (c:UInt8) (n:Nat) (h:n < 256):(c.toNat:Int)=n↔c=UInt8.ofNat n:=by
 constructor
 ·intro e;have:c.toNat=n:=by omega
  rw [<- this];simp
 ·rintro rfl;simp;omega
theorem YQ9 {w w':World}{a:Option Addr}{L:List (List UInt8)} (h:DQ5 w a L) (hb:Below w.heap.size w w'):DQ5 w' a L:=by
 rcases h with h|⟨b,h1,h2,h3⟩
 ·exact .inl h
 ·exact .inr ⟨b,h1,Af h2 hb.size,fun j x hx=>(hb.cell (p:=⟨b,j,none⟩) h2).trans (h3 j x hx)⟩
def eQ5 (m:List UInt8):List (List UInt8)->List UInt8
 | []=>[]
 | x::r=>x++r.flatMap (m++·)
def NQ4 (m:List UInt8) (L:List (List UInt8)):List UInt8:=L.flatMap (·++m)
theorem qQ6 (m:List UInt8) (ts:List Tx):cQ1 m ts=eQ5 m (ts.map Prod.snd):=by
 cases ts with
 | nil=>rfl
 | cons x r=>simp only [cQ1,BQ1,eQ5,List.map_cons,List.flatMap_map]
theorem GQ5 (ts:List Tx):fQ1 ts=NQ4 [10] (ts.map Prod.snd):=by simp only [fQ1,NQ4,List.flatMap_map]
theorem IQ7 (m:List UInt8) (L:List (List UInt8)) (i:Nat) (x:List UInt8) (h:L[i]?=some x):eQ5 m (L.take (i+1))=eQ5 m (L.take i)++((if 0 < i then m else [])++x):=by
 cases L with
 | nil=>simp at h
 | cons y r =>
  cases i with
  | zero=>simp at h;subst h;simp [eQ5]
  | succ i =>
   simp only [F'] at h;simp only [List.take_succ_cons,eQ5];rw [List.take_add_one,h,List.flatMap_append];simp
theorem pQ7 (m:List UInt8) (L:List (List UInt8)) (i:Nat) (x:List UInt8) (h:L[i]?=some x):NQ4 m (L.take (i+1))=NQ4 m (L.take i)++(x++m):=by
 unfold NQ4;rw [List.take_add_one,h,List.flatMap_append];simp
theorem SQ5 (a t b:List UInt8) (hb:a.length+(t.length+b.length)<=1099511627776):Calls Tryz.prog 61 #[.string ⟨a.toArray⟩,.string ⟨t.toArray⟩,.string ⟨b.toArray⟩] w fun e w'=>e=.returned (.string ⟨(WQ0 a t b).toArray⟩)/\w'=w:=by
 unfold WQ0;cases ht:(t==[]) with
 | true =>
  rw [if_pos (by simpa using ht)];go_enter Tryz.func61,Tryz.ntmps61;go_wp2_with fail;go_ret;exact⟨rfl,rfl⟩
 | false =>
  rw [if_neg (by simpa using ht)];have h1:¬ 9223372036854775807 < a.length+t.length:=Cf
  have h2:¬ 9223372036854775807 < a.length+t.length+b.length:=Cf
  go_enter Tryz.func61,Tryz.ntmps61;go_wp2_with fail;go_ret;exact⟨by simp [ByteArray.mk_append_mk],rfl⟩
theorem eQ9 (m:List UInt8) (L:List (List UInt8)) (i:Nat):(eQ5 m (L.take i)).length<=(eQ5 m L).length:=by
 cases L with
 | nil=>simp
 | cons y r =>
  cases i with
  | zero=>simp [eQ5]
  | succ i =>
   simp only [List.take_succ_cons,eQ5,O'];have h:=congrArg List.length (congrArg (fun l=>List.flatMap (m++·) l) (List.take_append_drop i r));simp only [List.flatMap_append,O'] at h;omega
theorem mQ8 (m:List UInt8) (L:List (List UInt8)) (i:Nat):(NQ4 m (L.take i)).length<=(NQ4 m L).length:=by
 have h:=congrArg List.length (congrArg (fun l=>List.flatMap (·++m) l) (List.take_append_drop i L));simp only [List.flatMap_append,O'] at h;unfold NQ4;omega
theorem dQ6 (m:List UInt8) (a:Option Addr) (cap:Nat) (L:List (List UInt8)) (h:DQ5 w a L) (hl:L.length<=1000000) (hb:(eQ5 m L).length<=1099511627776):Calls Tryz.prog 62 #[.slice a L.length cap,.string ⟨m.toArray⟩] w fun e w'=>e=.returned (.string ⟨(eQ5 m L).toArray⟩)/\w'=w:=by
 have HH:=hid h;obtain⟨n,hn⟩:∃ n,n=L.length:=⟨_,rfl⟩;rw [<- hn] at hl ⊢;have HN:=hid hn;have HB:=hid hb;obtain⟨T,hT⟩:∃ T,T=eQ5 m L:=⟨_,rfl⟩;rw [<- hT];have HT:=hid hT;clear h hn hb hT;go_enter Tryz.func62,Tryz.ntmps62;go_wp2_with fail
 go_loop [5,6] (fun u5 u6=>∃ i:Nat,i<=n/\u6=.int .i64 (i:Int)/\u5=.string ⟨(eQ5 m (L.take i)).toArray⟩) (fun _ u=>n - (intOf u).toNat)
 case atStart=>exact⟨0,Cf,rfl,rfl⟩
 case round =>
  obtain⟨i,hi,rfl,rfl⟩:=hrel;by_cases hlt:i < n
  ·obtain⟨x,hx⟩:∃ x,L[i]?=some x:=⟨_,M' Hi⟩;obtain⟨b,rfl,hbl,hc⟩:=HH.out.resolve_left (by rintro rfl;simp at hx);have c0:=hc i x hx;have HS:=hid (IQ7 m L i x hx);have hle:=eQ9 m L (i+1);rw [HS.out] at hle;have hbb:=HB.out;rw [O',O'] at hle;generalize eQ5 m (L.take i)=S at *;have i0:(0:Int)<=(i:Int):=by omega
   have i1:(i:Int) < (n:Int):=Cf
   by_cases h0:0 < i
   ·rw [if_pos h0] at HS hle;have h0':(0:Int) < (i:Int):=by omega
    have k1:¬ 9223372036854775807 < S.length+m.length:=Cf
    have k2:¬ 9223372036854775807 < S.length+m.length+x.length:=Cf
    clear hx hc hle hbb h0;go_wp2_with fail
    go_round
    case rel=>exact⟨i+1,Cf,Gv,by rw [HS.out];simp [ByteArray.mk_append_mk]⟩
    case measure=>simp [intOf];omega
   ·rw [if_neg h0] at HS hle;have h0':¬ (0:Int) < (i:Int):=by omega
    have k2:¬ 9223372036854775807 < S.length+x.length:=by simp at hle;omega
    clear hx hc hle hbb h0;go_wp2_with fail
    go_round
    case rel=>exact⟨i+1,Cf,Gv,by rw [HS.out];simp [ByteArray.mk_append_mk]⟩
    case measure=>simp [intOf];omega
  ·have hT:T=eQ5 m (L.take i):=by rw [HT.out,show i=L.length by have:=HN.out;omega,List.take_length]
   have HT2:=hid hT;have i1:¬ (i:Int) < (n:Int):=Cf
   clear hT;go_wp2_with fail;go_ret;exact⟨by rw [HT2.out];rfl,rfl⟩
theorem QQ5 (m:List UInt8) (a:Option Addr) (cap:Nat) (L:List (List UInt8)) (h:DQ5 w a L) (hl:L.length<=1000000) (hb:(NQ4 m L).length<=1099511627776):Calls Tryz.prog 60 #[.slice a L.length cap,.string ⟨m.toArray⟩] w fun e w'=>e=.returned (.string ⟨(NQ4 m L).toArray⟩)/\w'=w:=by
 have HH:=hid h;obtain⟨n,hn⟩:∃ n,n=L.length:=⟨_,rfl⟩;rw [<- hn] at hl ⊢;have HN:=hid hn;have HB:=hid hb;obtain⟨T,hT⟩:∃ T,T=NQ4 m L:=⟨_,rfl⟩;rw [<- hT];have HT:=hid hT;clear h hn hb hT;go_enter Tryz.func60,Tryz.ntmps60;go_wp2_with fail
 go_loop [5,6] (fun u5 u6=>∃ i:Nat,i<=n/\u6=.int .i64 (i:Int)/\u5=.string ⟨(NQ4 m (L.take i)).toArray⟩) (fun _ u=>n - (intOf u).toNat)
 case atStart=>exact⟨0,Cf,rfl,rfl⟩
 case round =>
  obtain⟨i,hi,rfl,rfl⟩:=hrel;by_cases hlt:i < n
  ·obtain⟨x,hx⟩:∃ x,L[i]?=some x:=⟨_,M' Hi⟩;obtain⟨b,rfl,hbl,hc⟩:=HH.out.resolve_left (by rintro rfl;simp at hx);have c0:=hc i x hx;have HS:=hid (pQ7 m L i x hx);have hle:=mQ8 m L (i+1);rw [HS.out,O',O'] at hle;have hbb:=HB.out;generalize NQ4 m (L.take i)=S at *;have i0:(0:Int)<=(i:Int):=by omega
   have i1:(i:Int) < (n:Int):=Cf
   have k1:¬ 9223372036854775807 < x.length+m.length:=Cf
   have k2:¬ 9223372036854775807 < S.length+(x.length+m.length):=Cf
   clear hx hc hle hbb;go_wp2_with fail
   go_round
   case rel=>exact⟨i+1,Cf,Gv,by rw [HS.out];simp [ByteArray.mk_append_mk]⟩
   case measure=>simp [intOf];omega
  ·have hT:T=NQ4 m (L.take i):=by rw [HT.out,show i=L.length by have:=HN.out;omega,List.take_length]
   have HT2:=hid hT;have i1:¬ (i:Int) < (n:Int):=Cf
   clear hT;go_wp2_with fail;go_ret;exact⟨by rw [HT2.out];rfl,rfl⟩
end Ck
namespace Ck
open Go.RowKit
open Rnd (Tx WQ0 cQ1 BQ1 fQ1 tx tki bQ1 TQ0)
variable {w w':World}
def KsB (w:World) (a:Option Addr) (L:List UInt8):Prop:=L=[]∨∃ b,a=some ⟨b,0,none⟩/\b < w.heap.size/\∀ j x,L[j]?=some x->w.cell? ⟨b,j,none⟩=some (.int .u8 (x.toNat:Int))
def wQ5 (ts:List Tx):List (List UInt8):=ts.map fun x=>x.2++(if x.1=27 then [32] else [])
theorem Tryz.infoStr:(Tryz.prog.info? 9).map (fun i=>(i.zero,i.size,i.bytes))=some (some (.string ⟨#[]⟩),1,16):=Ci
def YQ4 (ts:List Tx) (i:Nat):List (List UInt8):=(wQ5 ts).take i++(ts.map Prod.snd).drop i
theorem sQ5 (ts:List Tx) (i j:Nat) (hi:i<=ts.length):(YQ4 ts i)[j]?=if j < i then (wQ5 ts)[j]? else (ts.map Prod.snd)[j]?:=by
 unfold YQ4;have hd:(wQ5 ts).length=ts.length:=by simp [wQ5]
 by_cases h:j < i
 ·rw [if_pos h,List.getElem?_append_left (by rw [List.length_take];omega),List.getElem?_take,if_pos h]
 ·rw [if_neg h,Au (by rw [List.length_take];omega),List.getElem?_drop,List.length_take]
  congr 1;omega
theorem mQ6 {ts:List Tx}{i:Nat}{x:Tx} (hx:ts[i]?=some x):YQ4 ts (i+1)=(YQ4 ts i).set i (x.2++(if x.1=27 then [32] else [])):=by
 have hi:=(Ai.1 hx).1;have hd:(wQ5 ts)[i]?=some (x.2++(if x.1=27 then [32] else [])):=by unfold wQ5;rw [List.getElem?_map,hx];rfl
 have hl:(YQ4 ts i).length=ts.length:=by simp [YQ4,wQ5];omega
 apply List.ext_getElem?;intro j;rw [sQ5 ts (i+1) j Cf,List.getElem?_set];by_cases h:i=j
 ·subst h;rw [if_pos Cf,if_pos rfl,if_pos Cf,hd]
 ·rw [if_neg h,sQ5 ts i j Cf];by_cases h2:j < i
  ·rw [if_pos h2,if_pos Cf]
  ·rw [if_neg h2,if_neg Cf]
theorem SQ7 {ts:List Tx}{i:Nat}{x:Tx} (hx:ts[i]?=some x) (hn:¬ x.1=27):YQ4 ts (i+1)=YQ4 ts i:=by
 rw [mQ6 hx,if_neg hn,List.append_nil];have hi:=(Ai.1 hx).1;apply List.ext_getElem?;intro j;have hml:(YQ4 ts i).length=ts.length:=by simp [YQ4,wQ5];omega
 rw [List.getElem?_set];by_cases h:i=j
 ·subst h;rw [if_pos rfl,if_pos Cf,sQ5 ts i i Cf,if_neg Cf,List.getElem?_map,hx];rfl
 ·rw [if_neg h]
theorem HQ8 (ts:List Tx):YQ4 ts ts.length=wQ5 ts:=by
 unfold YQ4;rw [Ar (by simp [wQ5]),List.drop_of_length_le Cm,List.append_nil]
theorem xQ9 (ts:List Tx):YQ4 ts 0=ts.map Prod.snd:=by simp [YQ4]
theorem JQ8 {W:World}{b:Nat}{L:List (List UInt8)} (h:∀ j x,L[j]?=some x->W.cell? ⟨b,j,none⟩=some (.string ⟨x.toArray⟩)):∀ j u,(MQ4 L)[j]?=some u->W.cell? ((⟨b,0,none⟩:Addr).add j)=some u:=by
 intro j u hu;unfold MQ4 at hu;rw [List.getElem?_map] at hu;obtain⟨x,hx,rfl⟩:=Option.map_eq_some_iff.1 hu;have hadd:(⟨b,0,none⟩:Addr).add j=⟨b,j,none⟩:=by unfold Addr.add;split <;> simp_all
 rw [hadd];exact h j x hx
theorem vQ7 {W:World}{base g m cap:Nat}{L:List (List UInt8)} (h:W.ownsRow base 9 1 (.slice (some ⟨g,0,none⟩) m cap) m (MQ4 L)) (hL:L.length=m) {j:Nat}{x:List UInt8} (hx:L[j]?=some x):W.cell? ⟨g,j,none⟩=some (.string ⟨x.toArray⟩):=by
 have hj:=(Ai.1 hx).1;rw [h.cellAt j Cf];unfold MQ4;rw [List.getElem?_map,hx];rfl
theorem VQ9 {ts:List Tx}{M:Nat} (h:Rnd.S ts<=M):∀ x∈ts,x.2.length<=M:=by
 induction ts with
 | nil=>intro x hx;cases hx
 | cons y r ih =>
  simp only [Rnd.S,List.map_cons,List.sum_cons] at h;intro x hx;rcases List.mem_cons.1 hx with rfl|hx
  ·exact Cf
  ·exact ih (by simp only [Rnd.S];omega) x hx
theorem sm (a t b:List UInt8) (h:a.length+b.length<=12:=by decide):(WQ0 a t b).length<=t.length+12:=by have:=Rnd.lQ3 a t b;omega
def Pre:Nat->List Nat->Prop
 | _,[]=>True
 | s,a::r=>¬ 9223372036854775807 < s+a/\Pre (s+a) r
theorem pq:∀ (L:List Nat) (s:Nat),s+L.sum<=9223372036854775807->Pre s L
 | [],_,_=>trivial
 | a::r,s,h=>by
  rw [List.sum_cons] at h;exact⟨Cf,pq r (s+a) Cf⟩
theorem pp (s:Nat) (L:List Nat) (h:s+L.sum<=9223372036854775807:=by simp only [List.sum_cons,List.sum_nil];omega):Pre s L:=pq L s h
theorem zQ9 (w a b:List UInt8):Rnd.VQ0 w a b=WQ0 a w b:=rfl
theorem rQ4 {P:Prop} (hh:P:=by
 as_aux_lemma =>
  go_wp2_with (first|(go_at_call 61;refine (SQ5 _ _ _ (by simp only [Ab,Aj];omega)).mono ?_;rintro e w3 ⟨rfl,hw⟩;replace hw:=hw.symm;subst hw)|(go_at_call 62;refine (HALL.out _ Ch).mono ?_;rintro e w3 ⟨rfl,hw⟩;replace hw:=hw.symm;subst hw)|(go_at_call 60;refine (HEACH.out _ Ch).mono ?_;rintro e w3 ⟨rfl,hw⟩;replace hw:=hw.symm;subst hw))
  try (go_big_quiet ((go_at_call 61;exact Calls.quiet_of_same (SQ5 _ _ _ (by simp only [Ab,Aj];omega))));go_wp2_with fail)
  go_ret;refine⟨by rw [HZ.out];first|(simp [TQ0,tx,tki,bQ1,zQ9,Rnd.xE,Rnd.jQ1,List.range_succ,qQ6,GQ5,ByteArray.mk_append_mk,HF.out];done)|(simp [TQ0,tx,tki,bQ1,Rnd.VQ0,WQ0,Rnd.nlT,Rnd.xE,Rnd.jQ1,List.range_succ,qQ6,GQ5,eQ5,ByteArray.mk_append_mk,HF.out];done),?_⟩
  first|exact HBW.out|exact Num.kL HBW.out _):P:=hh
theorem JQ7 (k:Nat) (n:Int) (q:List UInt8) (tb kb:Nat) (tc kc:Nat) (ts:List Tx) (m:Nat) (hm:m=ts.length) (htb:tb < w.heap.size) (hkb:kb < w.heap.size)
  (ht:∀ j x,(ts.map Prod.snd)[j]?=some x->w.cell? ⟨tb,j,none⟩=some (.string ⟨x.toArray⟩)) (hkd:∀ j x,(ts.map Prod.fst)[j]?=some x->w.cell? ⟨kb,j,none⟩=some (.int .u8 (x.toNat:Int))) (hl:m<=1000000) (h0:0 < m) (hk:k < 69)
  (har:(gD k).1<=(m:Int)/\((gD k).2=false->(m:Int)=(gD k).1)) (hq:q.length<=1000000000) (hS:Rnd.S ts<=1000000000) :
  Calls Tryz.prog 41 #[.agg #[.int .u8 (k:Int),.int .i64 n,.string ⟨q.toArray⟩],.slice (some ⟨tb,0,none⟩) m tc,.slice (some ⟨kb,0,none⟩) m kc] w fun e w'=>e=.returned (.string ⟨(TQ0 k q ts).toArray⟩)/\Below w.heap.size w w':=by
 have hb:=(J' w.heap.size w).alloc (C' _) (Obj.cells #[.int .u8 (k:Int),.int .i64 n,.string ⟨q.toArray⟩] 46);have hx:=heap_alloc_new w (Obj.cells #[.int .u8 (k:Int),.int .i64 n,.string ⟨q.toArray⟩] 46);have hxl:w.heap.size < (w.alloc (Obj.cells #[.int .u8 (k:Int),.int .i64 n,.string ⟨q.toArray⟩] 46)).heap.size:=Cm
 obtain⟨Z,hZ⟩:∃ Z,Z=TQ0 k q ts:=⟨_,rfl⟩;rw [<- hZ];have HZ:=hid hZ;have HR:=hid har;have HM:=hid hm;have HT:=hid (And.intro htb ht);have HK:=hid (And.intro hkb hkd);have HL:=hid (VQ9 hS);have HSS:=hid hS;clear hZ har hm ht hkd htb hkb hS;go_enter Tryz.func41,Tryz.ntmps41;go_upto_region 1 with fail;generalize w.alloc (Obj.cells #[.int .u8 (k:Int),.int .i64 n,.string ⟨q.toArray⟩] 46)=w1 at *;have HB1:=hid hb;have HX1:=hid (And.intro hx hxl);obtain⟨c0,_,c2,_⟩:=uA hx;have hn0:(0:Int) < (m:Int):=Cf
 obtain⟨iN,hiN,hz0,hz1,hz2⟩:=info_parts Tryz.infoStr;clear hx hb hxl h0;have hm0:((m:Int)==0)=false:=Cn
 have hw1:=HB1.out.size;go_wp2_with (at_builtin;go_loud (refine wpList_append_lies _ rfl (.tmp 16) (.tmp 17) 29 rfl w1.heap.size 9 iN _ 1 16 Tryz.underlying29 hiN hz0 hz1 hz2 rfl Cf (.slice (some ⟨w1.heap.size,0,none⟩) 0 0) 0 [] rfl (World.ownsRow_lit w1 #[] 0 (C' _) (Nat.zero_le _) rfl) ⟨tb,0,none⟩ m tc (MQ4 (ts.map Prod.snd)) rfl (by simp [MQ4];exact HM.out.symm) (JQ8 fun j x hx=>(((J' w1.heap.size w1).alloc (C' _) _).cell (p:=⟨tb,j,none⟩) (Af HT.out.1 hw1)).trans ((HB1.out.cell (p:=⟨tb,j,none⟩) HT.out.1).trans (HT.out.2 j x hx))) (fun u hu=>by obtain⟨x,_,rfl⟩:=List.mem_map.1 hu;rfl) Cf Cu Cf Cm (w1.heap.size+1) Cm ?_));intro gg cap w2 hown2 hgrow2 hat2 hlt2;have hb2:Below w1.heap.size w1 w2:=((J' w1.heap.size w1).alloc (C' _) _).grown hgrow2 Cm (fun k hk=>by simp only [Value.ownBlock,Option.some.injEq] at hk;omega)
 try simp only [Nat.zero_add,Ao] at hown2
 have HB2:=hid hb2;have HO2:=hid hown2;have HG:Hid (w1.heap.size<=gg):=hid (by rcases hat2 with h|h;(simp only [Value.ownBlock,Option.some.injEq] at h;omega);omega);clear hown2 hgrow2 hat2 hlt2 hb2 hiN hz0 hz1 hz2;go_wp2_with fail
 go_loopw [9] (fun u9 wr=>∃ i:Nat,u9=.int .i64 (i:Int)/\i<=m/\wr.ownsRow w1.heap.size 9 1 (.slice (some ⟨gg,0,none⟩) m cap) m (MQ4 (YQ4 ts i))/\Below w1.heap.size w1 wr) (fun u _=>(m - intOf u).toNat)
 case atStart=>exact⟨0,rfl,Cf,by rw [xQ9];exact HO2.out,HB2.out⟩
 case round =>
  obtain⟨i,rfl,hi,hown,hbr⟩:=hrel;have HO:=hid hown;have HBR:=hid hbr;clear hown hbr;by_cases hlt:i < m
  ·obtain⟨x,hx⟩:∃ x,ts[i]?=some x:=⟨_,M' (by have:=HM.out;omega)⟩;have hkc:=(HBR.out.cell (p:=⟨kb,i,none⟩) (by have:=HK.out.1;have:=HB1.out.size;simp;omega)).trans ((HB1.out.cell (p:=⟨kb,i,none⟩) HK.out.1).trans (HK.out.2 i x.1 (by rw [List.getElem?_map,hx];rfl)));have hml:(YQ4 ts i).length=m:=by simp [YQ4,wQ5];have:=HM.out;omega
   have hdc:=vQ7 HO.out hml (j:=i) (x:=x.2) (by rw [sQ5 ts i i (by have:=HM.out;omega),if_neg Cf,List.getElem?_map,hx];rfl);have hfz:=HO.out.frozenAt i;have HXI:=hid hx;obtain⟨xk,xt⟩:=x;have hxt:xt.length<=1000000000:=HL.out _ (List.mem_of_getElem? HXI.out);simp only [] at hkc hdc;have i0:(0:Int)<=(i:Int):=Cf
   have i1:(i:Int) < (m:Int):=Cf
   clear hx;by_cases h27:(xk.toNat:Int)=27
   ·have k1:¬ 9223372036854775807 < xt.length+1:=by omega
    have HS:=hid (mQ6 HXI.out);have HS2:Hid (YQ4 ts (i+1)=(YQ4 ts i).set i (xt++[32])):=hid (by rw [HS.out];simp only [show xk=27 from (u8e xk 27 Ch).1 h27,if_true]);have hst:=HO.out.stored i (.string ⟨(xt++[32]).toArray⟩);have HST:=hid hst;clear hml hst HS;go_wp2_with fail;go_roundw
    case rel=>exact⟨i+1,Gv,Cf,by rw [HS2.out];unfold MQ4;rw [List.map_set];have h:=HST.out.1;unfold MQ4 at h;simpa [ByteArray.mk_append_mk] using h,HBR.out.setCell HG.out _⟩
    case measure=>simp only [intOf];omega
   ·have HS2:Hid (YQ4 ts (i+1)=YQ4 ts i):=hid (SQ7 HXI.out fun h=>h27 ((u8e xk 27 Ch).2 h));have b27:((xk.toNat:Int)==27)=false:=by simpa using h27
    clear hml h27;go_wp2_with fail;go_roundw
    case rel=>exact⟨i+1,Gv,Cf,by rw [HS2.out];exact HO.out,HBR.out⟩
    case measure=>simp only [intOf];omega
  ·have him:i=m:=by omega
   have hml:=HO.out;rw [him,HM.out,HQ8,<- HM.out] at hml;have HO3:=hid hml;have i1:¬ (i:Int) < (m:Int):=Cf
   have c0:=(HBR.out.cell (p:=⟨w.heap.size,0,none⟩) HX1.out.2).trans c0;clear c2 hml him HO;have HBW:=hid (HB1.out.trans (HBR.out.mono hw1));have HC:Hid (∀ (j:Nat) (x:List UInt8),(ts.map Prod.snd)[j]?=some x->wr.cell? ⟨tb,j,none⟩=some (.string ⟨x.toArray⟩)):=hid fun j x hx=>(HBR.out.cell (p:=⟨tb,j,none⟩) (Af HT.out.1 hw1)).trans ((HB1.out.cell (p:=⟨tb,j,none⟩) HT.out.1).trans (HT.out.2 j x hx))
   have HKC:Hid (∀ (j:Nat) (x:UInt8),(ts.map Prod.fst)[j]?=some x->wr.cell? ⟨kb,j,none⟩=some (.int .u8 (x.toNat:Int))):=hid fun j x hx=>(HBR.out.cell (p:=⟨kb,j,none⟩) (Af HK.out.1 hw1)).trans ((HB1.out.cell (p:=⟨kb,j,none⟩) HK.out.1).trans (HK.out.2 j x hx))
   have HD:Hid (∀ (j:Nat) (x:List UInt8),(wQ5 ts)[j]?=some x->wr.cell? ⟨gg,j,none⟩=some (.string ⟨x.toArray⟩)):=hid fun j x hx=>vQ7 HO3.out (by simp [wQ5];exact HM.out.symm) hx
   have hWS:DQ5 wr (some ⟨tb,0,none⟩) (ts.map Prod.snd):=.inr ⟨tb,rfl,by have:=HT.out.1;have:=HBR.out.size;omega,HC.out⟩;have HALL:Hid (∀ mk:List UInt8,mk.length<=3->Calls Tryz.prog 62 #[.slice (some ⟨tb,0,none⟩) m tc,.string ⟨mk.toArray⟩] wr fun e w'=>e=.returned (.string ⟨(cQ1 mk ts).toArray⟩)/\w'=wr):=hid fun mk hmk=>by
    have h:=dQ6 mk (some ⟨tb,0,none⟩) tc (ts.map Prod.snd) hWS (by rw [List.length_map,<- HM.out];exact hl) (by rw [<- qQ6];have:=Rnd.qQ3 mk ts;have:=HSS.out;have:=Nat.mul_le_mul hmk (Nat.le_of_eq HM.out.symm);omega);rw [List.length_map,<- HM.out,<- qQ6] at h;exact h
   have HEACH:Hid (∀ mk:List UInt8,mk=[10]->Calls Tryz.prog 60 #[.slice (some ⟨tb,0,none⟩) m tc,.string ⟨mk.toArray⟩] wr fun e w'=>e=.returned (.string ⟨(fQ1 ts).toArray⟩)/\w'=wr):=hid fun mk hmk=>by
    subst hmk;have h:=QQ5 [10] (some ⟨tb,0,none⟩) tc (ts.map Prod.snd) hWS (by rw [List.length_map,<- HM.out];exact hl) (by rw [<- GQ5];have:=Rnd.ZQ2 ts;have:=HSS.out;have:=HM.out;omega);rw [List.length_map,<- HM.out,<- GQ5] at h;exact h
   have HF:=hid True.intro;clear hWS HO3 HT HK HB1 HBR hw1 HX1 HG HB2 HO2;have hcs:(k=0∨k=26∨k=27∨k=49)∨(k=3∨k=19∨k=28∨k=33∨k=35∨k=36∨k=42∨k=43∨k=45∨k=46∨k=47∨k=48∨k=50∨k=52∨k=54∨k=55∨k=56∨k=57∨k=58∨k=63∨k=68)∨(k=5∨k=9∨k=15∨k=17∨k=22∨k=24∨k=29∨k=30∨k=32∨k=34∨k=37∨k=38∨k=39∨k=40∨k=41∨k=44∨k=51∨k=53∨k=62∨k=64∨k=67)∨(k=1∨k=6∨k=7∨k=21∨k=60∨k=66)∨(k=31∨k=59∨k=61∨k=65)∨(k=8)∨(k=2∨k=4∨k=10∨k=11∨k=12∨k=13∨k=14∨k=16∨k=18∨k=20∨k=23∨k=25):=Cf
   rcases hcs with ha|ha|ha|ha|ha|ha|ha
   ·exfalso;rcases ha with rfl|rfl|rfl|rfl <;> (have hmm:(m:Int)=0:=HR.out.2 Ch;omega)
   ·rcases ha with rfl|rfl|rfl|rfl|rfl|rfl|rfl|rfl|rfl|rfl|rfl|rfl|rfl|rfl|rfl|rfl|rfl|rfl|rfl|rfl|rfl
    all_goals
     have hmm:(m:Int)=1:=HR.out.2 Ch;obtain rfl:m=1:=Cf
     obtain⟨x0,rfl⟩:=Rnd.gQ1 HM.out.symm;have t0:=HC.out 0 x0.2 rfl;have b0:=HL.out x0 Cm
    ·have l1:=pp q.length [1,x0.2.length];simp only [Pre] at l1;exact rQ4
    ·have l1:=pp 1 [x0.2.length];simp only [Pre] at l1;exact rQ4
    ·have l1:=pp 1 [x0.2.length,1];simp only [Pre] at l1;exact rQ4
    ·obtain⟨D0,hD0⟩:∃ D,D=x0.2++(if x0.1=27 then [32] else []):=⟨_,rfl⟩;have d0:=HD.out 0 D0 (by rw [hD0];rfl);have e0:D0.length<=x0.2.length+1:=by rw [hD0];split <;> simp
     have HF:=hid hD0;clear hD0;have l1:=pp D0.length [7];simp only [Pre] at l1;exact rQ4
    ·have l1:=pp 1 [x0.2.length];simp only [Pre] at l1;exact rQ4
    ·have l1:=pp q.length [1,x0.2.length];simp only [Pre] at l1;have l2:=pp q.length [x0.2.length];simp only [Pre] at l2;have kc:=HKC.out 0 x0.1 rfl;cases h_:((x0.1.toNat:Int)==36)
     ·have HF:=hid (show ¬ x0.1=36 from fun h=>by rw [h] at h_;cases h_);(exact rQ4)
     ·have HF:=hid (show x0.1=36 from (u8e x0.1 36 Ch).1 (eq_of_beq h_));(exact rQ4)
    ·have l1:=pp 5 [x0.2.length];simp only [Pre] at l1;exact rQ4
    ·have l1:=pp 2 [x0.2.length];simp only [Pre] at l1;exact rQ4
    ·have l1:=pp q.length [1,x0.2.length];simp only [Pre] at l1;exact rQ4
    ·have l1:=pp 4 [x0.2.length];simp only [Pre] at l1;exact rQ4
    ·have l1:=pp 7 [x0.2.length,1];simp only [Pre] at l1;exact rQ4
    ·have l1:=pp 10 [x0.2.length,1];simp only [Pre] at l1;exact rQ4
    ·exact rQ4
    ·have l1:=pp x0.2.length [q.length];simp only [Pre] at l1;exact rQ4
    ·have l1:=pp 3 [x0.2.length];simp only [Pre] at l1;exact rQ4
    ·have l1:=pp 6 [x0.2.length];simp only [Pre] at l1;exact rQ4
    ·have s1:=sm [32] x0.2 [];have l1:=pp 6 [(WQ0 [32] x0.2 []).length];simp only [Pre] at l1;exact rQ4
    ·have s1:=sm [32] x0.2 [];have l1:=pp q.length [(WQ0 [32] x0.2 []).length];simp only [Pre] at l1;exact rQ4
    ·have s1:=sm [10] x0.2 [];have l1:=pp 1 [(WQ0 [10] x0.2 []).length,1];simp only [Pre] at l1;exact rQ4
    ·have l1:=pp 9 [x0.2.length,1];simp only [Pre] at l1;exact rQ4
    ·exact rQ4
   ·rcases ha with rfl|rfl|rfl|rfl|rfl|rfl|rfl|rfl|rfl|rfl|rfl|rfl|rfl|rfl|rfl|rfl|rfl|rfl|rfl|rfl|rfl
    all_goals
     have hmm:(m:Int)=2:=HR.out.2 Ch;obtain rfl:m=2:=Cf
     obtain⟨x0,x1,rfl⟩:=Rnd.hQ1 HM.out.symm;have t0:=HC.out 0 x0.2 rfl;have b0:=HL.out x0 Cm;have t1:=HC.out 1 x1.2 rfl;have b1:=HL.out x1 Cm
    ·have s1:=sm [] q [32];have s2:=sm [] x0.2 [32];have l1:=pp (WQ0 [] q [32]).length [(WQ0 [] x0.2 [32]).length,x1.2.length];simp only [Pre] at l1;exact rQ4
    ·have s1:=sm [32] x1.2 [];have l1:=pp x0.2.length [(WQ0 [32] x1.2 []).length];simp only [Pre] at l1;exact rQ4
    ·have s1:=sm [] x0.2 [32];have l1:=pp (WQ0 [] x0.2 [32]).length [q.length,x1.2.length];simp only [Pre] at l1;exact rQ4
    ·have s1:=sm [32] x1.2 [];have l1:=pp x0.2.length [(WQ0 [32] x1.2 []).length];simp only [Pre] at l1;exact rQ4
    ·have s1:=sm [32] x1.2 [];have l1:=pp x0.2.length [(WQ0 [32] x1.2 []).length];simp only [Pre] at l1;exact rQ4
    ·exact rQ4
    ·obtain⟨D0,hD0⟩:∃ D,D=x0.2++(if x0.1=27 then [32] else []):=⟨_,rfl⟩;have d0:=HD.out 0 D0 (by rw [hD0];rfl);have e0:D0.length<=x0.2.length+1:=by rw [hD0];split <;> simp
     have HF:=hid hD0;clear hD0;have l1:=pp D0.length [1,x1.2.length];simp only [Pre] at l1;exact rQ4
    ·have l1:=pp x0.2.length [1,x1.2.length,1];simp only [Pre] at l1;exact rQ4
    ·obtain⟨D0,hD0⟩:∃ D,D=x0.2++(if x0.1=27 then [32] else []):=⟨_,rfl⟩;have d0:=HD.out 0 D0 (by rw [hD0];rfl);have e0:D0.length<=x0.2.length+1:=by rw [hD0];split <;> simp
     have HF:=hid hD0;clear hD0;have l1:=pp D0.length [2,x1.2.length,1];simp only [Pre] at l1;exact rQ4
    ·have s1:=sm [32] q [];have l1:=pp x0.2.length [1,x1.2.length,(WQ0 [32] q []).length,1];simp only [Pre] at l1;exact rQ4
    ·have l1:=pp x0.2.length [1,q.length,1,x1.2.length];simp only [Pre] at l1;exact rQ4
    ·have l1:=pp x0.2.length [2,x1.2.length];simp only [Pre] at l1;exact rQ4
    ·have l1:=pp x0.2.length [1,x1.2.length,1];simp only [Pre] at l1;exact rQ4
    ·have l1:=pp 4 [x0.2.length,1,x1.2.length];simp only [Pre] at l1;exact rQ4
    ·have l1:=pp 1 [x0.2.length,1,x1.2.length];simp only [Pre] at l1;exact rQ4
    ·have l1:=pp 4 [x0.2.length,1,x1.2.length];simp only [Pre] at l1;exact rQ4
    ·have l1:=pp x0.2.length [4,x1.2.length];simp only [Pre] at l1;exact rQ4
    ·have l1:=pp x0.2.length [1,q.length,1,x1.2.length];simp only [Pre] at l1;exact rQ4
    ·have l1:=pp 9 [x1.2.length];simp only [Pre] at l1;have l2:=pp 5 [x0.2.length,2,x1.2.length];simp only [Pre] at l2;cases h_:(x0.2==[]) <;> have HF:=hid h_ <;> simp at HF <;> (exact rQ4)
    ·have l1:=pp 9 [x1.2.length];simp only [Pre] at l1;have l2:=pp 5 [x0.2.length,2,x1.2.length];simp only [Pre] at l2;cases h_:(x0.2==[]) <;> have HF:=hid h_ <;> simp at HF <;> (exact rQ4)
    ·have l1:=pp x0.2.length [2,x1.2.length];simp only [Pre] at l1;exact rQ4
   ·rcases ha with rfl|rfl|rfl|rfl|rfl|rfl
    all_goals
     have hmm:(m:Int)=3:=HR.out.2 Ch;obtain rfl:m=3:=Cf
     obtain⟨x0,x1,x2,rfl⟩:=Rnd.mQ1 HM.out.symm;have t0:=HC.out 0 x0.2 rfl;have b0:=HL.out x0 Cm;have t1:=HC.out 1 x1.2 rfl;have b1:=HL.out x1 Cm;have t2:=HC.out 2 x2.2 rfl;have b2:=HL.out x2 Cm
    ·have l1:=pp 8 [x0.2.length,1,x1.2.length,x2.2.length];simp only [Pre] at l1;exact rQ4
    ·have s1:=sm [32] x1.2 [];have s2:=sm [32,61,32] x2.2 [];have l1:=pp x0.2.length [(WQ0 [32] x1.2 []).length,(WQ0 [32,61,32] x2.2 []).length];simp only [Pre] at l1;exact rQ4
    ·have s1:=sm [] q [32];have l1:=pp x0.2.length [x1.2.length,1,(WQ0 [] q [32]).length,x2.2.length];simp only [Pre] at l1;exact rQ4
    ·have s1:=sm [32] x1.2 [];have s2:=sm [32] x2.2 [];have l1:=pp x0.2.length [(WQ0 [32] x1.2 []).length,(WQ0 [32] x2.2 []).length];simp only [Pre] at l1;exact rQ4
    ·have s1:=sm [] x0.2 [59,32];have s2:=sm [] x1.2 [32];have l1:=pp 7 [(WQ0 [] x0.2 [59,32]).length,(WQ0 [] x1.2 [32]).length,2,x2.2.length,1];simp only [Pre] at l1;exact rQ4
    ·have l1:=pp 10 [x1.2.length,1,x2.2.length];simp only [Pre] at l1;have l2:=pp 4 [x0.2.length,1,q.length,7,x1.2.length,1,x2.2.length];simp only [Pre] at l2;cases h_:(q==[]) <;> have HF:=hid h_ <;> simp at HF <;> (exact rQ4)
   ·rcases ha with rfl|rfl|rfl|rfl
    all_goals
     have hmm:(m:Int)=4:=HR.out.2 Ch;obtain rfl:m=4:=Cf
     obtain⟨x0,x1,x2,x3,rfl⟩:=Rnd.rQ1 HM.out.symm;have t0:=HC.out 0 x0.2 rfl;have b0:=HL.out x0 Cm;have t1:=HC.out 1 x1.2 rfl;have b1:=HL.out x1 Cm;have t2:=HC.out 2 x2.2 rfl;have b2:=HL.out x2 Cm;have t3:=HC.out 3 x3.2 rfl;have b3:=HL.out x3 Cm
    ·have s1:=sm [58] x3.2 [];have l1:=pp x0.2.length [1,x1.2.length,1,x2.2.length,(WQ0 [58] x3.2 []).length,1];simp only [Pre] at l1;exact rQ4
    ·have s1:=sm [] x0.2 [59,32];have s2:=sm [32,101,108,115,101,32] x3.2 [];have l1:=pp 3 [(WQ0 [] x0.2 [59,32]).length,x1.2.length,1,x2.2.length,(WQ0 [32,101,108,115,101,32] x3.2 []).length];simp only [Pre] at l1;exact rQ4
    ·obtain⟨D2,hD2⟩:∃ D,D=x2.2++(if x2.1=27 then [32] else []):=⟨_,rfl⟩;have d2:=HD.out 2 D2 (by rw [hD2];rfl);have e2:D2.length<=x2.2.length+1:=by rw [hD2];split <;> simp
     have HF:=hid hD2;clear hD2;have s1:=sm [] x0.2 [59,32];have s2:=sm [] x1.2 [32,58,61,32];have l1:=pp 7 [(WQ0 [] x0.2 [59,32]).length,(WQ0 [] x1.2 [32,58,61,32]).length,D2.length,10,x3.2.length,1];simp only [Pre] at l1;exact rQ4
    ·have s1:=sm [] x1.2 [32];have s2:=sm [] x2.2 [32];have l1:=pp 4 [(WQ0 [] x1.2 [32]).length,x3.2.length];simp only [Pre] at l1;have l2:=pp 4 [x0.2.length,2,x1.2.length,2,(WQ0 [] x2.2 [32]).length,x3.2.length];simp only [Pre] at l2;cases h_:(x0.2==[]) <;> cases h2_:(x2.2==[]) <;> have HF:=hid (And.intro h_ h2_) <;> simp at HF <;> (exact rQ4)
   ·subst ha
    all_goals
     have hmm:(m:Int)=5:=HR.out.2 Ch;obtain rfl:m=5:=Cf
     obtain⟨x0,x1,x2,x3,x4,rfl⟩:=Rnd.OQ1 HM.out.symm;have t0:=HC.out 0 x0.2 rfl;have b0:=HL.out x0 Cm;have t1:=HC.out 1 x1.2 rfl;have b1:=HL.out x1 Cm;have t2:=HC.out 2 x2.2 rfl;have b2:=HL.out x2 Cm;have t3:=HC.out 3 x3.2 rfl;have b3:=HL.out x3 Cm;have t4:=HC.out 4 x4.2 rfl;have b4:=HL.out x4 Cm
    ·have s1:=sm [] x0.2 [32];have s2:=sm [32] x4.2 [];have l1:=pp 5 [(WQ0 [] x0.2 [32]).length,x1.2.length,x2.2.length,x3.2.length,(WQ0 [32] x4.2 []).length];simp only [Pre] at l1;exact rQ4
   ·rcases ha with rfl|rfl|rfl|rfl|rfl|rfl|rfl|rfl|rfl|rfl|rfl|rfl
    all_goals
     have v1:=fun mk=>Rnd.qQ3 mk ts
     have v2:=Rnd.ZQ2 ts;have v3:=HSS.out;have v4:=HM.out
    ·clear v1 v2 v3 v4;exact rQ4
    ·have l1:=pp q.length [3];simp only [Pre] at l1;have l2:=pp q.length [3,(fQ1 ts).length,1];simp only [Pre] at l2;have hm0:((m:Int)==0)=false:=by simp;omega
     obtain⟨y,r,rfl⟩:∃ y r,ts=y::r:=List.exists_cons_of_length_pos Cf;clear v1 v2 v3 v4;exact rQ4
    ·have v5:=v1 [44,32];simp only [Ab,Aj] at v5;clear v1 v2 v3 v4;exact rQ4
    ·have v5:=v1 [44,32];simp only [Ab,Aj] at v5;clear v1 v2 v3 v4;exact rQ4
    ·have v5:=v1 [44,32];simp only [Ab,Aj] at v5;clear v1 v2 v3 v4;exact rQ4
    ·clear v1 v2 v3 v4;exact rQ4
    ·have v5:=v1 [44,32];simp only [Ab,Aj] at v5;have l1:=pp 1 [(cQ1 [44,32] ts).length,1];simp only [Pre] at l1;clear v1 v2 v3 v4;exact rQ4
    ·have v5:=v1 [44,32];simp only [Ab,Aj] at v5;have l1:=pp 1 [(cQ1 [44,32] ts).length,1];simp only [Pre] at l1;clear v1 v2 v3 v4;exact rQ4
    ·have v5:=v1 [32,124,32];simp only [Ab,Aj] at v5;clear v1 v2 v3 v4;exact rQ4
    ·have v5:=v1 [59,32];simp only [Ab,Aj] at v5;clear v1 v2 v3 v4;exact rQ4
    ·have v5:=v1 [59,32];simp only [Ab,Aj] at v5;clear v1 v2 v3 v4;exact rQ4
    ·have v5:=v1 [];simp only [Ab,Aj] at v5;clear v1 v2 v3 v4;exact rQ4
end Ck
