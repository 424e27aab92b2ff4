import Derived.Test.YtfmpphplbdojbaaGreatDoorQAP
import Derived.Deep.LoopGhost
import Derived.Lib.DecodeN
import Derived.Lib.TrimU
import Derived.Lib.OthersKept
import Derived.Lib.AppendStr
import Derived.Lib.AppendIntMem
import Derived.Deep.AppendLies
import Derived.Deep.RegionHeldLaw
import Derived.Handy
namespace Go.Proofs.YtfmpphplbdojbaaGreatDoor
open Lib(hid)
set_option linter.all false
set_option maxHeartbeats 40000000
set_option maxRecDepth 100000
namespace Num
open Go.RowKit
def CJ (l:List UInt8):Int :=
  match l with
  | z::c::r=>if (z.toNat:Int)=48 then
      (if (c.toNat:Int)=98∨(c.toNat:Int)=66 then dF 2 r
       else if (c.toNat:Int)=111∨(c.toNat:Int)=79 then dF 8 r
       else if (c.toNat:Int)=120∨(c.toNat:Int)=88 then SP r else tO l) else tO l
  | _=>tO l
theorem cP (l:List UInt8) (w:World) (hs:l.length<=1125899906842624) :
    Calls Tryz.prog 80 #[.string ⟨l.toArray⟩] w fun e w'=>e=.returned (.int .u8 (CJ l))/\Below w.heap.size w w':=by
  match l,hs with
  | [],hs =>
    go_enter Tryz.func80,Tryz.ntmps80;go_wp2_with (first
      | (go_at_call 123;refine (xO [] _ Cm).mono ?_;rintro e w1 ⟨rfl,hb⟩))
    go_ret;exact⟨rfl,hb⟩
  | [z],hs =>
    go_enter Tryz.func80,Tryz.ntmps80;go_wp2_with (first
      | (go_at_call 123;refine (xO [z] _ Cm).mono ?_;rintro e w1 ⟨rfl,hb⟩))
    go_ret;exact⟨rfl,hb⟩
  | z::c::r,hs =>
    simp only [Ab] at hs;go_enter Tryz.func80,Tryz.ntmps80;go_wp2_with (first
      | (go_at_call 123;refine (xO (z::c::r) _ C3).mono ?_;rintro e w1 ⟨rfl,hb⟩)
      | (go_at_call 122;refine (SW _ _ C3).mono ?_;rintro e w1 ⟨rfl,hb⟩)
      | (go_at_call 121;refine (QK _ _ _ C3 Cf).mono ?_;rintro e w1 ⟨rfl,hb⟩))
    all_goals go_ret
    all_goals refine⟨dE ?_,hb⟩
    all_goals clear hb
    all_goals simp only [CJ,beq_iff_eq,beq_eq_false_iff_ne] at *
    all_goals (repeat' split)
    all_goals first|rfl|omega|(simp_all;done)|(simp_all;omega)
def yE (l:List UInt8):Int :=
  if CJ l≠0 then CJ l
  else if Lib.hasSuffix l [105]=true then
    (if CJ (l.take (l.length - 1))≠0∨(l.take (l.length - 1)≠[]/\aC 10 (l.take (l.length - 1))=(l.take (l.length - 1)).length) then 5 else 0)
  else 0
theorem sW (l:List UInt8) (c:UInt8) (h:Lib.hasSuffix l [c]=true):1<=l.length:=by
  cases l with
  | nil=>simp [Lib.hasSuffix,List.isSuffixOf] at h
  | cons _ _=>simp
theorem ZD (l:List UInt8) (w:World) (hs:l.length<=1125899906842624) :
    Calls Tryz.prog 49 #[.string ⟨l.toArray⟩] w fun e w'=>e=.returned (.int .u8 (yE l))/\Below w.heap.size w w':=by
  have hb:=J' w.heap.size w;by_cases hsuf:Lib.hasSuffix l [105]=true
  · have h1:=sW l 105 hsuf
    go_enter Tryz.func49,Tryz.ntmps49;go_wp2_with (first
      | (go_at_call 80;refine (cP _ _ C3).mono ?_;rintro e w1 ⟨rfl,hn⟩;replace hb:=dA hb hn)
      | (go_at_call 81;refine (MX _ _ _ hs).mono ?_;rintro e w1 ⟨rfl,rfl⟩)
      | (go_at_call 82;refine (cN _ _ _ C3 Cf).mono ?_;rintro e w1 ⟨rfl,hle,hn⟩;replace hb:=dA hb hn))
    all_goals go_ret
    all_goals refine⟨dE ?_,hb⟩
    all_goals clear hb hn
    all_goals simp only [yE,beq_iff_eq,bne_iff_ne,ne_eq] at *
    all_goals (repeat' split)
    all_goals first|rfl|omega|(simp_all;done)|(simp_all;omega)
  · have hsuf':Lib.hasSuffix l [105]=false:=by simpa using hsuf
    clear hsuf;go_enter Tryz.func49,Tryz.ntmps49;go_wp2_with (first
      | (go_at_call 80;refine (cP _ _ C3).mono ?_;rintro e w1 ⟨rfl,hn⟩;replace hb:=dA hb hn)
      | (go_at_call 81;refine (MX _ _ _ hs).mono ?_;rintro e w1 ⟨rfl,rfl⟩))
    all_goals go_ret
    all_goals (refine⟨dE ?_,hb⟩;simp_all [yE])
def eE (l:List UInt8) (k:Int):Bool :=
  decide (0<=k/\k < l.length)&&(decide (val (bat l k.toNat) < 10)||(decide (bat l k.toNat=46)&&decide (k+1 < l.length)&&decide (val (bat l (k.toNat+1)) < 10)))
theorem fH (l:List UInt8) (at':Int) (w:World) (hs:l.length<=1125899906842624) :
    Calls Tryz.prog 262 #[.string ⟨l.toArray⟩,.int .i64 at'] w fun e w'=>e=.returned (.bool (eE l at'))/\w=w':=by
  by_cases h0:0<=at'
  · obtain⟨k,rfl⟩:=Aa h0
    by_cases hk:k < l.length
    · go_enter Tryz.func262,Tryz.ntmps262
      go_wp2_with (first|(go_at_call 126;refine (tE _ _).mono ?_;rintro e w1 ⟨rfl,rfl⟩))
      all_goals go_ret
      all_goals refine⟨TG (congrArg Value.bool ?_),rfl⟩
      all_goals simp only [eE,bat]
      all_goals first|(simp_all;done)|(simp_all;omega)|go_show
    · have hk':l.length<=k:=by omega
      go_enter Tryz.func262,Tryz.ntmps262;go_wp2_with fail
      all_goals go_ret
      all_goals exact⟨by simp [eE];omega,rfl⟩
  · go_enter Tryz.func262,Tryz.ntmps262
    go_wp2_with fail
    all_goals go_ret
    all_goals exact⟨by simp [eE];omega,rfl⟩
def alB (c:Int):Bool:=decide (c=95∨c=46∨val c < 10∨(97<=c/\c<=122)∨(65<=c/\c<=90))
def oJ (cont:Nat->Bool):Nat->Nat->Nat
  | 0,tx=>tx
  | f+1,tx=>if cont tx then oJ cont f (tx+1) else tx
def bM (l:List UInt8) (k:Nat):Bool:=Lib.hasPrefix (l.drop k) [48,120]||Lib.hasPrefix (l.drop k) [48,88]
def GL (c:Int):Int:=bits BinOp.or IntKind.u8 c 32
def mE (l:List UInt8) (hex:Bool) (k tx:Nat):Bool :=
  alB (bat l tx)||(decide (bat l tx=43∨bat l tx=45)&&decide (k < tx)&&(if hex then decide (GL (bat l (tx - 1))=112) else decide (GL (bat l (tx - 1))=101)))
def QH (l:List UInt8) (hex:Bool) (k:Nat):Nat:=oJ (mE l hex k) (l.length - k) k
def OG (l:List UInt8) (hex:Bool) (k:Nat):Int × Int × Int :=
  let K:=yE ((l.drop k).take (QH l hex k - k))
  if K≠0 then (K,(QH l hex k:Int),0) else (0,0,4)
theorem BL (cont:Nat->Bool) (n tx:Nat) (h:cont tx=true) (ht:tx < n):oJ cont (n - tx) tx=oJ cont (n - (tx+1)) (tx+1):=by
  obtain⟨f,hf⟩:∃ f,n - tx=f+1:=⟨n - tx - 1,Cf⟩;rw [hf,oJ,if_pos h];congr 1;omega
theorem cL (cont:Nat->Bool) (f tx:Nat) (h:cont tx=false):oJ cont f tx=tx:=by
  cases f with
  | zero=>rfl
  | succ f=>rw [oJ,if_neg (by simp [h])]
theorem BG (l:List UInt8) (hex:Bool) (k tx:Nat) (h:QH l hex k=tx) :
    OG l hex k=if yE ((l.drop k).take (tx - k))≠0 then (yE ((l.drop k).take (tx - k)),(tx:Int),0) else (0,0,4):=by
  subst h;rfl
theorem SX (l:List UInt8) (k:Nat) (w:World) (hs:l.length<=1125899906842624) (hk:k < l.length) (hbeg:eE l k=true)
    (hh1:Lib.hasPrefix (l.drop k) [48,120]=true) :
    Calls Tryz.prog 239 #[.string ⟨l.toArray⟩,.int .i64 k] w fun e w'=>e=.returned (.tuple #[.int .u8 (OG l true k).1,.int .i64 (OG l true k).2.1,.int .i64 (OG l true k).2.2])/\Below w.heap.size w w':=by
  go_enter Tryz.func239,Tryz.ntmps239;go_wp2_with (first
    | (go_at_call 262;refine (fH _ _ _ hs).mono ?_;rintro e w1 ⟨rfl,rfl⟩)
    | (go_at_call 173;refine (gN _ _ _).mono ?_;rintro e w1 ⟨rfl,rfl⟩))
  go_loop [8] (fun u=>∃ tx:Nat,k<=tx/\tx<=l.length/\u=.int .i64 tx/\oJ (mE l true k) (l.length - tx) tx=QH l true k) (fun u=>l.length - (intOf u).toNat)
  case atStart=>exact⟨k,C' _,Cf,rfl,rfl⟩
  case round =>
    obtain⟨tx,hto,hle,rfl,htr⟩:=hrel;have Htr:=hid htr;clear htr hbeg;by_cases hlt:tx < l.length
    · go_wp2_with (first
        | (go_at_call 126;refine (tE _ _).mono ?_;rintro e w1 ⟨rfl,rfl⟩)
        | (go_at_call 49;refine (ZD _ _ C3).mono ?_;rintro e w1 ⟨rfl,hb⟩))
      all_goals first
        | (go_round
           case rel =>
             have hct:mE l true k tx=true:=Dn
             exact⟨tx+1,Cf,Cf,Gv,Gb⟩
           case measure=>simp [intOf];omega)
        | (go_ret3
           have hct:mE l true k tx=false:=by
             clear hb;simp only [mE,alB,bat,GL,Bool.or_eq_false_iff,Bool.and_eq_false_iff,decide_eq_false_iff_not]
             simp_all <;> omega
           have hen:QH l true k=tx:=Gw
           refine⟨TG ?_,hb⟩;rw [BG _ _ _ _ hen]
           simp_all)
    · go_wp2_with (first
        | (go_at_call 49;refine (ZD _ _ C3).mono ?_;rintro e w1 ⟨rfl,hb⟩))
      all_goals
        (go_ret3
         have hen:QH l true k=tx:=Ea
         refine⟨TG ?_,hb⟩;rw [BG _ _ _ _ hen]
         simp_all)
theorem pY (l:List UInt8) (k:Nat) (w:World) (hs:l.length<=1125899906842624) (hk:k < l.length) (hbeg:eE l k=true)
    (hh1:Lib.hasPrefix (l.drop k) [48,120]=false) (hh2:Lib.hasPrefix (l.drop k) [48,88]=true) :
    Calls Tryz.prog 239 #[.string ⟨l.toArray⟩,.int .i64 k] w fun e w'=>e=.returned (.tuple #[.int .u8 (OG l true k).1,.int .i64 (OG l true k).2.1,.int .i64 (OG l true k).2.2])/\Below w.heap.size w w':=by
  go_enter Tryz.func239,Tryz.ntmps239;go_wp2_with (first
    | (go_at_call 262;refine (fH _ _ _ hs).mono ?_;rintro e w1 ⟨rfl,rfl⟩)
    | (go_at_call 173;refine (gN _ _ _).mono ?_;rintro e w1 ⟨rfl,rfl⟩))
  go_loop [8] (fun u=>∃ tx:Nat,k<=tx/\tx<=l.length/\u=.int .i64 tx/\oJ (mE l true k) (l.length - tx) tx=QH l true k) (fun u=>l.length - (intOf u).toNat)
  case atStart=>exact⟨k,C' _,Cf,rfl,rfl⟩
  case round =>
    obtain⟨tx,hto,hle,rfl,htr⟩:=hrel;have Htr:=hid htr;clear htr hbeg;by_cases hlt:tx < l.length
    · go_wp2_with (first
        | (go_at_call 126;refine (tE _ _).mono ?_;rintro e w1 ⟨rfl,rfl⟩)
        | (go_at_call 49;refine (ZD _ _ C3).mono ?_;rintro e w1 ⟨rfl,hb⟩))
      all_goals first
        | (go_round
           case rel =>
             have hct:mE l true k tx=true:=Dn
             exact⟨tx+1,Cf,Cf,Gv,Gb⟩
           case measure=>simp [intOf];omega)
        | (go_ret3
           have hct:mE l true k tx=false:=by
             clear hb;simp only [mE,alB,bat,GL,Bool.or_eq_false_iff,Bool.and_eq_false_iff,decide_eq_false_iff_not]
             simp_all <;> omega
           have hen:QH l true k=tx:=Gw
           refine⟨TG ?_,hb⟩;rw [BG _ _ _ _ hen]
           simp_all)
    · go_wp2_with (first
        | (go_at_call 49;refine (ZD _ _ C3).mono ?_;rintro e w1 ⟨rfl,hb⟩))
      all_goals
        (go_ret3
         have hen:QH l true k=tx:=Ea
         refine⟨TG ?_,hb⟩;rw [BG _ _ _ _ hen]
         simp_all)
theorem RW (l:List UInt8) (k:Nat) (w:World) (hs:l.length<=1125899906842624) (hk:k < l.length) (hbeg:eE l k=true)
    (hh1:Lib.hasPrefix (l.drop k) [48,120]=false) (hh2:Lib.hasPrefix (l.drop k) [48,88]=false) :
    Calls Tryz.prog 239 #[.string ⟨l.toArray⟩,.int .i64 k] w fun e w'=>e=.returned (.tuple #[.int .u8 (OG l false k).1,.int .i64 (OG l false k).2.1,.int .i64 (OG l false k).2.2])/\Below w.heap.size w w':=by
  go_enter Tryz.func239,Tryz.ntmps239;go_wp2_with (first
    | (go_at_call 262;refine (fH _ _ _ hs).mono ?_;rintro e w1 ⟨rfl,rfl⟩)
    | (go_at_call 173;refine (gN _ _ _).mono ?_;rintro e w1 ⟨rfl,rfl⟩))
  go_loop [8] (fun u=>∃ tx:Nat,k<=tx/\tx<=l.length/\u=.int .i64 tx/\oJ (mE l false k) (l.length - tx) tx=QH l false k) (fun u=>l.length - (intOf u).toNat)
  case atStart=>exact⟨k,C' _,Cf,rfl,rfl⟩
  case round =>
    obtain⟨tx,hto,hle,rfl,htr⟩:=hrel;have Htr:=hid htr;clear htr hbeg;by_cases hlt:tx < l.length
    · go_wp2_with (first
        | (go_at_call 126;refine (tE _ _).mono ?_;rintro e w1 ⟨rfl,rfl⟩)
        | (go_at_call 49;refine (ZD _ _ C3).mono ?_;rintro e w1 ⟨rfl,hb⟩))
      all_goals first
        | (go_round
           case rel =>
             have hct:mE l false k tx=true:=Dn
             exact⟨tx+1,Cf,Cf,Gv,Gb⟩
           case measure=>simp [intOf];omega)
        | (go_ret3
           have hct:mE l false k tx=false:=by
             clear hb;simp only [mE,alB,bat,GL,Bool.or_eq_false_iff,Bool.and_eq_false_iff,decide_eq_false_iff_not]
             simp_all <;> omega
           have hen:QH l false k=tx:=Gw
           refine⟨TG ?_,hb⟩;rw [BG _ _ _ _ hen]
           simp_all)
    · go_wp2_with (first
        | (go_at_call 49;refine (ZD _ _ C3).mono ?_;rintro e w1 ⟨rfl,hb⟩))
      all_goals
        (go_ret3
         have hen:QH l false k=tx:=Ea
         refine⟨TG ?_,hb⟩;rw [BG _ _ _ _ hen]
         simp_all)
def YE (l:List UInt8) (a:Int):Int × Int × Int:=if eE l a=true then OG l (bM l a.toNat) a.toNat else (0,0,15)
theorem yU (l:List UInt8) (a:Int) (w:World) (hs:l.length<=1125899906842624) :
    Calls Tryz.prog 239 #[.string ⟨l.toArray⟩,.int .i64 a] w fun e w'=>e=.returned (.tuple #[.int .u8 (YE l a).1,.int .i64 (YE l a).2.1,.int .i64 (YE l a).2.2])/\Below w.heap.size w w':=by
  by_cases h0:eE l a=true
  · have hd:0<=a/\a < l.length:=by
      unfold eE at h0;simp only [Bool.and_eq_true,decide_eq_true_eq] at h0;exact h0.1
    obtain⟨k,rfl⟩:=Aa hd.1;have hk:k < l.length:=Cf
    unfold YE;rw [if_pos h0,Ae];by_cases h1:Lib.hasPrefix (l.drop k) [48,120]=true
    · have:bM l k=true:=by simp [bM,h1]
      rw [this];exact SX l k w hs hk h0 h1
    · have h1:Lib.hasPrefix (l.drop k) [48,120]=false:=by simpa using h1
      by_cases h2:Lib.hasPrefix (l.drop k) [48,88]=true
      · have:bM l k=true:=by simp [bM,h2]
        rw [this];exact pY l k w hs hk h0 h1 h2
      · have h2:Lib.hasPrefix (l.drop k) [48,88]=false:=by simpa using h2
        have:bM l k=false:=by simp [bM,h1,h2]
        rw [this];exact RW l k w hs hk h0 h1 h2
  · have h0:eE l a=false:=by simpa using h0
    unfold YE;rw [if_neg (by simp [h0])];go_enter Tryz.func239,Tryz.ntmps239;go_wp2_with (first|(go_at_call 262;refine (fH _ _ _ hs).mono ?_;rintro e w1 ⟨rfl,rfl⟩));go_ret3;exact⟨rfl,J' _ _⟩
end Num
section
open Go.RowKit
variable {w:World}
def dec (l:List UInt8):Nat × Nat:=Lib.decodeGo ⟨l.toArray⟩
theorem pJ (l:List UInt8) (j:Nat):(ByteArray.mk l.toArray).get! j=l[j]?.getD 0:=by
 show l.toArray[j]! =_
 simp [getElem!_def];cases l[j]? <;> rfl
theorem RL {l:List UInt8}{i:Nat} (h:i < l.length):Utf8.decode ⟨l.toArray⟩ i=dec (l.drop i):=by
 have hne:(ByteArray.mk (l.drop i).toArray).size≠0:=Fs
 unfold dec Lib.decodeGo;rw [if_neg hne,Lib.decode_at,Lib.decode_at];simp only [pJ,ByteArray.size,List.size_toArray,V',Nat.sub_zero,Nat.zero_add,List.getElem?_drop,Nat.add_zero]
theorem eG {l:List UInt8} (h:l≠[]):1<=(dec l).2:=by
 unfold dec Lib.decodeGo;rw [if_neg Ek];exact Lib.width_pos _ _
theorem kZ (l:List UInt8):(dec l).1<=1114111:=by
 unfold dec Lib.decodeGo;split
 ·exact Ch
 ·exact Lib.rune_le _ _
def vB (l:List UInt8) (i:Int):Int × Int :=
 if i < 0∨(l.length:Int)<=i then (0,0) else if (dec (l.drop i.toNat)).1=65533/\(dec (l.drop i.toNat)).2 < 2 then (0,0) else (((dec (l.drop i.toNat)).1:Int),((dec (l.drop i.toNat)).2:Int))
theorem QI (l:List UInt8) (i:Int) (hs:l.length<=1125899906842624) (hT:NC w):Calls Tryz.prog 116 #[.string ⟨l.toArray⟩,.int .i64 i] w (fun e w'=>e=.returned (.tuple #[.int .i32 (vB l i).1,.int .i64 (vB l i).2])/\Below w.heap.size w w'):=by
 have hb:=J' w.heap.size w;by_cases h0:i < 0
 ·have e:vB l i=(0,0):=by unfold vB;rw [if_pos (.inl h0)]
  rw [e];go_enter Tryz.func116,Tryz.ntmps116;go_wp2_with fail
  all_goals go_ret2
  all_goals exact⟨rfl,hb⟩
 ·obtain⟨k,rfl⟩:=Aa (Int.not_lt.1 h0);by_cases hk:k < l.length
  ·obtain⟨d,hd⟩:∃ d,d=dec (l.drop k):=⟨_,rfl⟩;have e:vB l k=if d.1=65533/\d.2 < 2 then (0,0) else ((d.1:Int),(d.2:Int)):=by unfold vB;rw [if_neg Cf,Ae,<- hd]
   rw [e];have hC:=Tryz.utf8_DecodeRuneInString ⟨(l.drop k).toArray⟩ w hT.1;have hd':Lib.decodeGo ⟨(l.drop k).toArray⟩=d:=hd.symm;rw [hd'] at hC;clear e hd hd' hT;go_enter Tryz.func116,Tryz.ntmps116;go_wp2_with (go_at_call 168;refine hC.mono ?_;rintro e w1 ⟨rfl,hb⟩)
   all_goals go_ret2
   all_goals refine⟨?_,hb⟩
   all_goals first
    | rfl
    | (exfalso;omega)
    | (simp [*])
  ·have e:vB l k=(0,0):=by unfold vB;rw [if_pos (.inr Cf)]
   rw [e];go_enter Tryz.func116,Tryz.ntmps116;go_wp2_with fail
   all_goals go_ret2
   all_goals exact⟨rfl,hb⟩
def DE (l:List UInt8):Nat->Nat->Int
 | 0,_=>-1
 | f+1,p=>if p < l.length then (if (dec (l.drop p)).1=65533/\(vB l p).2=0 then (p:Int) else DE l f (p+(dec (l.drop p)).2)) else -1
def ZJ (l:List UInt8):Int:=DE l l.length 0
theorem YF {l:List UInt8}{f p:Nat} (h:¬ p < l.length):DE l f p=-1:=by
 cases f with
 | zero=>rfl
 | succ f=>simp [DE,h]
theorem tC {w:World}{k:Nat}{s:ByteArray}{p:Nat} (h:w.heap[k]?=some (.stringIter s p)):w.iterPos k=p:=by simp [World.iterPos,h]
theorem UP (l:List UInt8) (hs:l.length<=1125899906842624) (hT:NC w):Calls Tryz.prog 76 #[.string ⟨l.toArray⟩] w (fun e w'=>e=.returned (.int .i64 (ZJ l))/\Below w.heap.size w w'):=by
 have hsz:(ByteArray.mk l.toArray).size=l.length:=Dx
 go_enter Tryz.func76,Tryz.ntmps76;go_wp2_with fail
 go_loopw [3] (fun _ wr=>∃ (pos fuel:Nat),wr.heap[w.heap.size]?=some (.stringIter ⟨l.toArray⟩ pos)/\Below w.heap.size w wr/\DE l fuel pos=ZJ l/\l.length<=pos+fuel) (fun _ wr=>l.length - wr.iterPos w.heap.size)
 case atStart=>exact⟨0,l.length,World.iter_heap w _ 0,(J' _ _).alloc (C' _) _,rfl,Cf⟩
 case round =>
  obtain⟨pos,fuel,hit,hbw,HB,hfu⟩:=hrel;have hpos0:=tC hit;by_cases hp:pos < l.length
  ·have hnx:∀ ty,(Instr.next (.pointer (some ⟨w.heap.size,0,none⟩)) true ty).run Tryz.prog wr=_:=fun ty=>Lib.run_next_any_at wr w.heap.size _ pos ty hit Dp
   rw [RL hp] at hnx;have hwd:=eG (l:=l.drop pos) Ft;obtain⟨fuel,rfl⟩:∃ f',fuel=f'+1:=⟨fuel - 1,Cf⟩;have hit2:=Lib.iterAt_heap wr w.heap.size _ pos (pos+(dec (l.drop pos)).2) hit;have hbw2:=Lib.below_iterAt hbw (k:=w.heap.size) (C' _) ⟨l.toArray⟩ (pos+(dec (l.drop pos)).2);have hT2:NC (wr.iterAt w.heap.size ⟨l.toArray⟩ (pos+(dec (l.drop pos)).2)):=hT.below hbw2;have hBlt:=lt_of_block hit2;have hC:=QI (w:=wr.iterAt w.heap.size ⟨l.toArray⟩ (pos+(dec (l.drop pos)).2)) l pos hs hT2;rw [DE,if_pos hp] at HB;obtain⟨d,hd⟩:∃ d,d=dec (l.drop pos):=⟨_,rfl⟩;rw [<- hd] at hnx hwd hit2 hbw2 hT2 hBlt hC HB;obtain⟨r,hr⟩:∃ r,r=vB l pos:=⟨_,rfl⟩;rw [<- hr] at hC HB;obtain⟨W1,hW1⟩:∃ W1,W1=wr.iterAt w.heap.size ⟨l.toArray⟩ (pos+d.2):=⟨_,rfl⟩;rw [<- hW1] at hnx hit2 hbw2 hT2 hBlt hC;replace HB:=hid HB;have HP:=hid (And.intro hpos0 (And.intro hp (And.intro hwd hfu)));have HI:=hid (And.intro hit2 (And.intro hbw2 hBlt));clear hit2 hbw2 hBlt hit hbw hpos0 hfu hwd hp hd hr hW1 hT hsz;go_wp2_with (go_at_call 116;refine hC.mono ?_;rintro e w2 ⟨rfl,hb2⟩)
   all_goals obtain⟨hit2,hbw2,hBlt⟩:=HI.out
   all_goals obtain⟨hpos0,hp,hwd,hfu⟩:=HP.out
   all_goals have HB:=HB.out
   ·have e:¬ (d.1=65533/\r.2=0):=by rintro⟨e,_⟩;simp_all
    rw [if_neg e] at HB;exact⟨⟨pos+d.2,fuel,hit2,hbw2,HB,Cf⟩,Hy⟩
   ·have e:d.1=65533/\r.2=0:=by constructor <;> simp_all <;> omega
    rw [if_pos e] at HB;rw [<- HB];go_ret;exact⟨rfl,dA hbw2 hb2⟩
   ·have e:¬ (d.1=65533/\r.2=0):=by rintro⟨_,e⟩;simp_all
    rw [if_neg e] at HB;have hit3:=(hb2.block _ hBlt).trans hit2;exact⟨⟨pos+d.2,fuel,hit3,dA hbw2 hb2,HB,Cf⟩,Gc⟩
  ·have hnx:∀ ty,(Instr.next (.pointer (some ⟨w.heap.size,0,none⟩)) true ty).run Tryz.prog wr=_:=fun ty=>Lib.run_next_end_at wr w.heap.size _ pos ty hit Dp
   have HB:=hid HB;have HI:=hid hbw;clear hit hbw;go_wp2_with fail;go_ret;have e:=HB.out;rw [YF hp] at e;rw [<- e];exact⟨rfl,HI.out⟩
end
section
open Go.RowKit
variable {w:World}
theorem vI (r:Int) (w:World):Calls Tryz.prog 257 #[.int .i32 r] w (fun e w'=>e=.returned (.bool (Lib.validRune r))/\w'=w):=Tryz.utf8_ValidRune r w
def sF (r:Int):List UInt8:=if Lib.validRune r then (Utf8.encode r).data.toList else []
theorem wN (r:Int):Calls Tryz.prog 233 #[.int .i32 r] w (fun e w'=>e=.returned (.string ⟨(sF r).toArray⟩)/\w'=w):=by
 by_cases h:Lib.validRune r=true
 ·have e:sF r=(Utf8.encode r).data.toList:=by unfold sF;rw [if_pos h]
  rw [e];go_enter Tryz.func233,Tryz.ntmps233;go_wp2_with (go_at_call 257;refine (vI r w).mono ?_;rintro e w1 ⟨rfl,rfl⟩);go_ret;exact⟨rfl,rfl⟩
 ·have h:Lib.validRune r=false:=by simpa using h
  have e:sF r=[]:=by unfold sF;rw [if_neg (by simp [h])]
  rw [e];go_enter Tryz.func233,Tryz.ntmps233;go_wp2_with (go_at_call 257;refine (vI r w).mono ?_;rintro e w1 ⟨rfl,rfl⟩);go_ret;exact⟨rfl,rfl⟩
def OH (n:Int):Int:=if 48<=n/\n<=57 then n - 48 else if 97<=n/\n<=102 then n - 97+10 else if 65<=n/\n<=70 then n - 65+10 else -1
theorem yT (n:Int) (h:0<=n) (h2:n<=255):Calls Tryz.prog 234 #[.int .i32 n] w fun e w'=>e=.returned (.int .i64 (OH n))/\w'=w:=by
 go_enter Tryz.func234,Tryz.ntmps234;go_wp2
 all_goals (go_ret;exact⟨Num.dE (by unfold OH;omega),rfl⟩)
theorem LM (b:UInt8) (w:World):Calls Tryz.prog 234 #[.int .i32 (wrap32 (b.toNat:Int))] w fun e w'=>e=.returned (.int .i64 (OH b.toNat))/\w'=w:=by
 have hb:=b.toNat_lt;have e:wrap32 (b.toNat:Int)=b.toNat:=by unfold wrap32;omega
 rw [e];exact yT _ Cf Cf
theorem tY (b:UInt8) {w:World}{n:Nat}:Calls Tryz.prog 234 #[.int .i32 (wrap32 (b.toNat:Int))] (w.drewN n) fun e w''=>e=.returned (.int .i64 (OH b.toNat))/\∃ m,w''=w.drewN m :=
 (LM b _).mono fun _ _ ⟨he,hm⟩=>⟨he,n,hm⟩
theorem GP (b:UInt8) {w:World}{a n:Nat}:Calls Tryz.prog 234 #[.int .i32 (wrap32 (b.toNat:Int))] (w.drewN (a+n)) fun e w''=>e=.returned (.int .i64 (OH b.toNat))/\∃ m,w''=w.drewN (a+m) :=
 (LM b _).mono fun _ _ ⟨he,hm⟩=>⟨he,n,hm⟩
theorem XR (n:Int):-1<=OH n/\OH n < 16:=by unfold OH;omega
structure Qs where
 k:Nat
 out:List UInt8
 bad:Bool
structure Rq (c:Nat) (w0:World) (l:List UInt8) (m:UInt8) (q:Qs) (w:World):Prop where
 blk:∃ ov,w.heap[c]?=some (.cells #[.string ⟨l.toArray⟩,.int .i64 (q.k:Int),.int .u8 (m.toNat:Int),ov,.bool q.bad] 157 (0,0))/\w.ownsRow (c+1) 5 1 ov q.out.length (Lib.byteCells q.out)
 bel:Below c w0 w
theorem Rq.lt {c:Nat}{w0:World}{l:List UInt8}{m:UInt8}{q:Qs}{w:World} (h:Rq c w0 l m q w):c < w.heap.size:=by
 obtain⟨ov,h1,_⟩:=h.blk;exact lt_of_block h1
theorem CA {b:Nat}{x0 x1 x2 x3 x4:Value}{T:TypeId} (h:w.heap[b]?=some (.cells #[x0,x1,x2,x3,x4] T (0,0))):w.cell? ⟨b,0,none⟩=some x0/\w.cell? ⟨b,1,none⟩=some x1/\w.cell? ⟨b,2,none⟩=some x2/\w.cell? ⟨b,3,none⟩=some x3/\w.cell? ⟨b,4,none⟩=some x4/\w.frozen? ⟨b,1,none⟩=false/\w.frozen? ⟨b,2,none⟩=false/\w.frozen? ⟨b,3,none⟩=false/\w.frozen? ⟨b,4,none⟩=false:=by
 refine⟨?_,?_,?_,?_,?_,?_,?_,?_,?_⟩
 all_goals first
  | (unfold World.cell?;rw [h];rfl)
  | (unfold World.frozen?;rw [h];rfl)
theorem rA {w:World}{base:Nat}{e:TypeId}{size:Nat}{v:Value}{n:Nat}{xs:List Value} (h:w.ownsRow base e size v n xs) (a:Addr) (ha:a.block < base) (x:Value):(w.setCell a x).ownsRow base e size v n xs:=by
 obtain⟨h1,h2⟩:=h;refine⟨h1,?_⟩;rcases h2 with h2|⟨g,cap,cur,e1,e2,e3,e4⟩
 ·exact .inl h2
 ·exact .inr ⟨g,cap,cur,e1,e2,by rw [Ad _ _ _ _ Cf];exact e3,e4⟩
theorem Rq.at_ {c:Nat}{w0:World}{l:List UInt8}{m:UInt8}{q:Qs}{w:World} (h:Rq c w0 l m q w) (k':Nat):Rq c w0 l m ⟨k',q.out,q.bad⟩ (w.setCell ⟨c,1,none⟩ (.int .i64 (k':Int))):=by
 obtain⟨ov,h1,h2⟩:=h.blk;exact⟨⟨ov,G9,rA h2 _ Cm _⟩,h.bel.setCell (p:=⟨c,1,none⟩) (C' _) _⟩
theorem Rq.mark {c:Nat}{w0:World}{l:List UInt8}{m:UInt8}{q:Qs}{w:World} (h:Rq c w0 l m q w) (m':UInt8):Rq c w0 l m' q (w.setCell ⟨c,2,none⟩ (.int .u8 (m'.toNat:Int))):=by
 obtain⟨ov,h1,h2⟩:=h.blk;exact⟨⟨ov,by rw [heap_setCell_same w c 2 _ _ _ h1];rfl,rA h2 _ Cm _⟩,h.bel.setCell (p:=⟨c,2,none⟩) (C' _) _⟩
theorem Rq.bad_ {c:Nat}{w0:World}{l:List UInt8}{m:UInt8}{q:Qs}{w:World} (h:Rq c w0 l m q w) (b:Bool):Rq c w0 l m ⟨q.k,q.out,b⟩ (w.setCell ⟨c,4,none⟩ (.bool b)):=by
 obtain⟨ov,h1,h2⟩:=h.blk;exact⟨⟨ov,by rw [heap_setCell_same w c 4 _ _ _ h1];rfl,rA h2 _ Cm _⟩,h.bel.setCell (p:=⟨c,4,none⟩) (C' _) _⟩
theorem Rq.drewN {c:Nat}{w0:World}{l:List UInt8}{m:UInt8}{q:Qs}{w:World} (h:Rq c w0 l m q w) (n:Nat):Rq c w0 l m q (w.drewN n):=by
 obtain⟨ov,h1,h2⟩:=h.blk;exact⟨⟨ov,h1,h2⟩,h.bel.trans ⟨rfl,rfl,rfl,C' _,fun _ _=>rfl⟩⟩
def nD (l:List UInt8) (k:Nat):Int:=if k < l.length then OH (Num.bat l k) else 99
def TA (l:List UInt8) (base:Int):Nat->Qs->Int->Int × Qs
 | 0,q,n=>(n,q)
 | f+1,q,n=>if nD l q.k < 0∨base<=nD l q.k then (0,⟨q.k,q.out,true⟩) else TA l base f ⟨q.k+1,q.out,q.bad⟩ (n*base+nD l q.k)
theorem VF {c:Nat}{w0:World}{l:List UInt8}{m:UInt8}{q:Qs} (cnt:Nat) (base:Int) (H:Rq c w0 l m q w) (hl:l.length<=1048576) (hk:q.k<=l.length) (hc:cnt<=8) (hb:base=8∨base=16) :
  Calls Tryz.prog 201 #[.pointer (some ⟨c,0,none⟩),.int .i64 cnt,.int .i64 base] w (fun e w'=>e=.returned (.int .i64 (TA l base cnt q 0).1)/\Rq c w0 l m (TA l base cnt q 0).2 w'):=by
 go_enter Tryz.func201,Tryz.ntmps201;go_wp2_with fail
 go_loopg [7,10] cnt (fun j v7 v10 wr=>∃ (i:Nat) (n:Int) (p:Qs),v7=.int .i64 n/\v10=.int .i64 (i:Int)/\i+j=cnt/\Rq c w0 l m p wr/\TA l base j p n=TA l base cnt q 0/\0<=n/\n < 16 ^ i/\p.k<=l.length)
 case atStart=>exact⟨0,0,q,rfl,rfl,Cf,H,rfl,Cf,Ch,hk⟩
 case round =>
  obtain⟨i,n,p,rfl,rfl,hj,HR,HN,hn0,hn1,hpk⟩:=hrel;have hi:i<=8:=Cf
  have hp16:(16:Int) ^ i<=4294967296:=by
   have:i=0∨i=1∨i=2∨i=3∨i=4∨i=5∨i=6∨i=7∨i=8:=Cf
   rcases this with rfl|rfl|rfl|rfl|rfl|rfl|rfl|rfl|rfl <;> decide
  obtain⟨ov,hblk,hown⟩:=HR.blk;obtain⟨c0,c1,c2,c3,c4,f1,f2,f3,f4⟩:=CA hblk;have HK:=hid (And.intro HR (And.intro HN (And.intro hn1 (And.intro hj (And.intro hi hown)))));clear HR HN hn1 hown hblk H hk hc;obtain⟨k,out,bad⟩:=p;simp only [] at c0 c1 c2 c3 c4 hpk;by_cases hic:i < cnt
  ·have d0:decide ((i:Int) < (cnt:Int))=true:=by simpa using hic
   have hbat:0<=Num.bat l k/\Num.bat l k<=255:=by unfold Num.bat;have:=UInt8.toNat_lt (l[k]?.getD 0);omega
   by_cases hkl:k < l.length
   ·have d1:decide ((k:Int) < (l.length:Int))=true:=by simpa using hkl
    have hB:=XR (l[k]).toNat;have hQ:nD l k=OH (l[k]).toNat:=by unfold nD Num.bat;rw [if_pos hkl,M' hkl];rfl
    obtain⟨b,hb⟩:∃ b,b=l[k]:=⟨_,rfl⟩;have HB:=hid hB;have HQ:=hid hQ;clear hbat hB hQ hb;go_wp2_with fail;go_quiet (fail);go_wp2_with fail;generalize nq=na at *;go_quiet ((go_at_call 234;exact GP _));have hB:=XR (l[k]).toNat;have hQ:=HQ.out;generalize OH (l[k]).toNat=d at *;have hR:=Rq.drewN (Rq.drewN HK.out.1 na) nq;have HR:=hid hR;obtain⟨ov,hblk,hown⟩:=hR.blk;clear c0 c1 c2 c3 c4 f1 f2 f3 f4 hR;obtain⟨c0,c1,c2,c3,c4,f1,f2,f3,f4⟩:=CA hblk;clear hblk hown;simp only [] at c0 c1 c2 c3 c4;generalize (wr.drewN na).drewN nq=wx at *;have hstep:TA l base cnt q 0=if d < 0∨base<=d then (0,⟨k,out,true⟩) else TA l base (cnt - i - 1) ⟨k+1,out,bad⟩ (n*base+d):=by
     obtain⟨_,HN,_,hj,_,_⟩:=HK.out;obtain⟨j',rfl⟩:∃ j',gk=j'+1:=⟨gk - 1,Cf⟩;rw [<- HN,TA,hQ];have:cnt - i - 1=j':=Cf
     rw [this]
    by_cases hd:d < 0∨base<=d
    ·rw [if_pos hd] at hstep;have HS:=hid hstep;clear hstep;by_cases hd0:d < 0
     ·have e0:decide (d < 0)=true:=by simpa using hd0
      clear hd hd0;go_wp2_with fail;go_ret;rw [HS.out];exact⟨rfl,Rq.bad_ HR.out true⟩
     ·have e0:decide (d < 0)=false:=by simpa using hd0
      have e1:decide (base<=d)=true:=Cn
      clear hd hd0;go_wp2_with fail;go_ret;rw [HS.out];exact⟨rfl,Rq.bad_ HR.out true⟩
    ·rw [if_neg hd] at hstep;have HS:=hid hstep;clear hstep;have e0:decide (d < 0)=false:=by simp;omega
     have e1:decide (base<=d)=false:=Cn
     have HD:=hid (And.intro (show 0<=d by omega) (show d < base by omega));clear hd;have hn1:=HK.out.2.2.1;have hd:=HD.out;have w1:IntKind.i64.wrap (n*base)=n*base:=IntWalk.i64_in _ Ie;have w2:IntKind.i64.wrap (n*base+d)=n*base+d:=IntWalk.i64_in _ Ie;clear hn1 hd;go_wp2_with fail;have hR2:=Rq.at_ HR.out (k+1);have hstepB:=HS.out;obtain⟨_,_,hn1,hj,_,_⟩:=HK.out;have hd:=HD.out;go_roundg (cnt - i - 1)
     case measure=>omega
     case rel=>exact⟨i+1,n*base+d,⟨k+1,out,bad⟩,rfl,Cm,Cf,hR2,hstepB.symm,Int.add_nonneg (Int.mul_nonneg hn0 Cf) Cf,F4,Dv⟩
   ·have d1:decide ((k:Int) < (l.length:Int))=false:=by simpa using hkl
    have hQ:nD l k=99:=by unfold nD;rw [if_neg hkl]
    have hstep:TA l base cnt q 0=(0,⟨k,out,true⟩):=by
     obtain⟨_,HN,_,hj,_,_⟩:=HK.out;obtain⟨j',rfl⟩:∃ j',gk=j'+1:=⟨gk - 1,Cf⟩;rw [<- HN,TA,hQ,if_pos (.inr Cf)]
    have HS:=hid hstep;have e1:decide (base<=99)=true:=Cn
    clear hstep hQ;go_wp2_with fail;go_quiet (fail);go_wp2_with fail;go_ret;rw [HS.out];exact⟨rfl,Rq.bad_ (HK.out.1.drewN _) true⟩
  ·have d0:decide ((i:Int) < (cnt:Int))=false:=by simpa using hic
   go_wp2_with fail;go_ret;obtain⟨hR,HN,_,hj,_,_⟩:=HK.out;have hg:gk=0:=Cf
   subst hg;rw [<- HN];exact⟨rfl,hR⟩
theorem Tryz.infoU8:(Tryz.prog.info? 5).map (fun i=>(i.zero,i.size,i.bytes))=some (some (.int .u8 0),1,1):=Ci
theorem Tryz.underBs:Tryz.prog.underlying 40=some (.slice 5):=Ci
theorem Tryz.underStr:Tryz.prog.underlying 9=some .string:=Ci
theorem ND {w:World}{base:Nat}{e:TypeId}{size:Nat}{v:Value}{n:Nat}{xs:List Value} (h:w.ownsRow base e size v n xs):∃ a m k,v=.slice a m k:=by
 rcases h.2 with h|⟨g,cap,cur,e1,_⟩
 ·exact⟨_,_,_,h.1⟩
 ·exact⟨_,_,_,e1⟩
theorem LD {w w':World}{base:Nat}{e:TypeId}{size:Nat}{v:Value}{n:Nat}{xs:List Value} (h:w.ownsRow base e size v n xs) (hb:Below w.heap.size w w'):w'.ownsRow base e size v n xs:=by
 obtain⟨h1,h2⟩:=h;refine⟨h1,?_⟩;rcases h2 with h2|⟨g,cap,cur,e1,e2,e3,e4⟩
 ·exact .inl h2
 ·exact .inr ⟨g,cap,cur,e1,e2,by rw [hb.block _ (lt_of_block e3)];exact e3,e4⟩
theorem Rq.later {c:Nat}{w0:World}{l:List UInt8}{m:UInt8}{q:Qs}{w w':World} (h:Rq c w0 l m q w) (hb:Below w.heap.size w w'):Rq c w0 l m q w':=by
 obtain⟨ov,h1,h2⟩:=h.blk;have hc:=lt_of_block h1;exact⟨⟨ov,by rw [hb.block _ hc];exact h1,LD h2 hb⟩,h.bel.trans (hb.mono Cf)⟩
theorem uE {w w':World}{c n:Nat}{o:Obj}{ov:Value}{xs:List Value}{e:TypeId}{sz:Nat} (hc:w.heap[c]?=some o) (hown:w.ownsRow (c+1) e sz ov n xs) (hg:w.grownBy w' ov.ownBlock):w'.heap[c]?=some o :=
 (hg.block c (lt_of_block hc) (fun h=>by have:=(hown.lt _ h.symm).1;omega)).trans hc
theorem Rq.push {c:Nat}{w0:World}{l:List UInt8}{m:UInt8}{q:Qs}{w w':World}{ov v':Value}{bs:List UInt8}{n:Nat}{xs:List Value} (hb:Below c w0 w) (hc:w.heap[c]?=some (.cells #[.string ⟨l.toArray⟩,.int .i64 (q.k:Int),.int .u8 (m.toNat:Int),ov,.bool q.bad] 157 (0,0)))
  (hown:w.ownsRow (c+1) 5 1 ov q.out.length (Lib.byteCells q.out)) (hg:w.grownBy w' ov.ownBlock) (hown':w'.ownsRow (c+1) 5 1 v' n xs) (hn:n=q.out.length+bs.length) (hx:xs=Lib.byteCells q.out++Lib.byteCells bs) :
  Rq c w0 l m ⟨q.k,q.out++bs,q.bad⟩ (w'.setCell ⟨c,3,none⟩ v'):=by
 have hc':=uE hc hown hg;have hB:Below c w0 w':=hb.grown hg (by have:=lt_of_block hc;omega) (fun j hj=>by have:=(hown.lt _ hj).1;omega);subst hn hx;refine⟨⟨v',by rw [heap_setCell_same w' c 3 _ _ _ hc'];rfl,?_⟩,hB.setCell (p:=⟨c,3,none⟩) (C' _) _⟩;have h2:=rA hown' ⟨c,3,none⟩ Cm v';simpa [Lib.byteCells_append] using h2
section
variable {P:Program}
theorem sH (w:World) {ops:Array Oper}{o:Oper}{a:Act}{K:Act->World->Prop}{Q:Exit->Act->World->Prop}{E:Prop} (hgd:o.guard=none) (sl x:Operand) (t u:TypeId)
  (ho:o.op=.call { callee:=.builtin .append,args:=#[sl,x],argTypes:=#[t,u] })
  (base:Nat) (e:TypeId) (i:TypeInfo) (ht:P.underlying t=some (.slice e)) (hu:P.underlying u=some .string) (hi:P.info? e=some i) (hz:i.zero=some (.int .u8 0))
  (hsize:i.size=1) (hby:i.bytes=1)
  (v:Value) (n:Nat) (xs:List Value) (hs:a.eval sl=v) (hown:w.ownsRow base e 1 v n xs) (s:ByteArray) (hx:a.eval x=.string s)
  (h63:n+s.size<=maxLen) (hbytes:n+s.size<=140737488355328) (hbase:base<=w.heap.size)
  (h:∀ v' w',w'.ownsRow base e 1 v' (n+s.size) (xs++Lib.strCells s)->w.grownBy w' v.ownBlock->K (a.put o.dst v') w') :
  if Region.wanted o (yielded ops a.tmps)=true then Oper.wp P o a w K Q else E:=by
 have hw:Region.wanted o (yielded ops a.tmps)=true:=by simp [Region.wanted,hgd]
 rw [if_pos hw];obtain⟨v',w',hr,h2,h3,_⟩:=Lib.run_append_own_string (P:=P) w base t u o.type e i ht hu hi hz hsize hby v n xs hown s h63 hbytes hbase;unfold Oper.wp execOp;simp only [ho,resolve,invoke,builtin,Sem.run_bind,Sem.run_pure,Result.andThen_ok,List.map_toArray,List.map_cons,List.map_nil,hs,hx,hr];exact h v' w' h2 h3
end
def ED (m:UInt8) (n:Int) (char:Bool) (q:Qs):Qs :=
 if char=false/\m=34 then ⟨q.k,q.out++[n.toNat.toUInt8],q.bad⟩
 else if 1114111 < n∨sF n=[] then ⟨q.k,q.out,true⟩
 else ⟨q.k,q.out++sF n,q.bad⟩
theorem cS (n:Int):(sF n).length<=4:=by
 unfold sF;split
 ·rename_i h;by_cases h1:128<=n
  ·have:=(encode_facts n (by rw [validRune_eq];exact h) h1).2.1;exact this
  ·have h0:0<=n:=by unfold Lib.validRune at h;simp at h;omega
   have hv:Utf8.valid n=true:=by rw [validRune_eq];exact h
   unfold Utf8.encode;simp only [hv,if_true];rw [if_pos Cf];simp
 ·exact Cm
theorem cI {c:Nat}{w0:World}{l:List UInt8}{m:UInt8}{q:Qs} (n:Int) (char:Bool) (H:Rq c w0 l m q w) (hn0:0<=n) (hn1:n < 4294967296) (hch:char=false->n < 256) (ho:q.out.length<=4800000) :
  Calls Tryz.prog 200 #[.pointer (some ⟨c,0,none⟩),.int .i64 n,.bool char] w (fun e w'=>e=.returned (.tuple #[])/\Rq c w0 l m (ED m n char q) w'):=by
 obtain⟨iU,hiU,hz0,hz1,hz2⟩:=info_parts Tryz.infoU8;obtain⟨k,out,bad⟩:=q;obtain⟨ov,hblk,hown⟩:=H.blk;obtain⟨c0,c1,c2,c3,c4,f1,f2,f3,f4⟩:=CA hblk;simp only [] at hblk hown c1 c4 ho;have hclt:=lt_of_block hblk;by_cases hA:char=false/\m=34
 ·obtain⟨rfl,rfl⟩:=hA;have e:ED 34 n false ⟨k,out,bad⟩=⟨k,out++[n.toNat.toUInt8],bad⟩:=rfl;rw [e];have hn:=hch rfl;have hw8:IntKind.u8.wrap n=n:=by simp [IntKind.wrap,IntKind.bits,IntKind.signed];omega
  have hcell:Lib.byteCells [n.toNat.toUInt8]=[.int .u8 n]:=by simp [Lib.byteCells];omega
  go_enter Tryz.func200,Tryz.ntmps200;go_wp2_with (at_builtin;refine wpList_append_lies _ rfl _ _ 40 rfl (c+1) 5 iU _ 1 1 Tryz.underBs hiU hz0 hz1 hz2 rfl Ch ov out.length (Lib.byteCells out) rfl (hown.alloc _) ⟨w.heap.size,0,none⟩ 1 1 [.int .u8 n] rfl rfl (Aq (heap_alloc_new _ _)) Eb Ch Cu Cf Cn _ rfl ?_;intro g cap w2 hown2 hgrow2 hat2 hlt2;have hb2:=uE ((Ac _ _ _ hclt).trans hblk) (hown.alloc _) hgrow2;obtain⟨_,_,_,k3,_,_,_,z3,_⟩:=CA hb2)
  (try simp only [Exit.inBlock,Exit.then]);refine bodyPost_ret (results_none rfl _ _ _) rfl ?_
  exact⟨rfl,Rq.push (q:=⟨k,out,bad⟩) (bs:=[n.toNat.toUInt8]) (H.bel.alloc Cf _) ((Ac _ _ _ hclt).trans hblk) (hown.alloc _) hgrow2 hown2 rfl (by rw [hcell])⟩
 ·have hA':char=true∨char=false/\((m.toNat:Int)==34)=false:=by
   cases char
   ·refine .inr ⟨rfl,?_⟩;rw [beq_eq_false_iff_ne];intro e;exact hA ⟨rfl,Av.1 (by show _=34;omega)⟩
   ·exact .inl rfl
  have e:ED m n char ⟨k,out,bad⟩=if 1114111 < n∨sF n=[] then ⟨k,out,true⟩ else ⟨k,out++sF n,bad⟩:=by unfold ED;rw [if_neg hA]
  rw [e];clear e hA hch;have hfl:=cS n;by_cases hB:1114111 < n
  ·rw [if_pos (.inl hB)];have d0:decide (1114111 < n)=true:=by simpa using hB
   clear hown hblk hB;rcases hA' with rfl|⟨rfl,hm⟩
   all_goals
    go_enter Tryz.func200,Tryz.ntmps200;go_wp2_with fail
    (try simp only [Exit.inBlock,Exit.then]);refine bodyPost_ret (results_none rfl _ _ _) rfl ?_
    exact⟨rfl,H.bad_ true⟩
  ·have d0:decide (1114111 < n)=false:=by simpa using hB
   have hw:wrap32 n=n:=by unfold wrap32;omega
   by_cases hC:sF n=[]
   ·rw [if_pos (.inr hC)];have hF:=wN n (w:=w);rw [hC] at hF;clear hown hblk hB;rcases hA' with rfl|⟨rfl,hm⟩
    all_goals
     go_enter Tryz.func200,Tryz.ntmps200;go_wp2_with (go_at_call 233;refine hF.mono ?_;rintro e w1 ⟨rfl,rfl⟩)
     (try simp only [Exit.inBlock,Exit.then]);refine bodyPost_ret (results_none rfl _ _ _) rfl ?_
     exact⟨rfl,H.bad_ true⟩
   ·rw [if_neg (by intro h;rcases h with h|h;exact hB h;exact hC h)];have hC':(sF n==[])=false:=by simpa using hC
    have hF:=fun w=>wN n (w:=w)
    have hw2:IntKind.i32.wrap n=n:=Cs
    clear hB hC;rcases hA' with rfl|⟨rfl,hm⟩
    all_goals
     go_enter Tryz.func200,Tryz.ntmps200;go_wp2_with (go_at_call 233;refine (hF _).mono ?_;rintro e w1 ⟨rfl,rfl⟩);have hsz:(ByteArray.mk (sF n).toArray).size=(sF n).length:=Dx
     go_region_law ((first|(go_simp;go_at_call 233;refine (hF _).mono ?_;rintro e w9 ⟨rfl,rfl⟩)|(refine sH _ Ct _ _ _ _ Ct (c+1) 5 iU Tryz.underBs Tryz.underStr hiU hz0 hz1 hz2 ov out.length (Lib.byteCells out) Ct hown.drew ⟨(sF n).toArray⟩ Ct I1 (by rw [hsz];omega) hclt ?_;intro v2 w2 hown2 hgrow2;obtain⟨va2,vn2,vc2,rfl⟩:=ND hown2;have hb2:=uE (by exact hblk) hown.drew hgrow2;obtain⟨_,_,_,k3,_,_,_,z3,_⟩:=CA hb2)))
     all_goals
      go_wp2_with fail;go_end0;exact⟨rfl,Rq.push (q:=⟨k,out,bad⟩) (bs:=sF n) H.bel.drew hblk hown.drew hgrow2 hown2 (by rw [hsz]) rfl⟩
end
section
open Go.RowKit
variable {w:World}
theorem rE (l:List UInt8) (base:Int) (hb:base=8∨base=16):∀ (f:Nat) (q:Qs) (n:Int) (i:Nat),0<=n->n < base ^ i->q.k<=l.length ->
  0<=(TA l base f q n).1/\(TA l base f q n).1 < base ^ (i+f)/\q.k<=(TA l base f q n).2.k/\(TA l base f q n).2.k<=l.length/\(TA l base f q n).2.out=q.out
 | 0,q,n,i,h0,h1,hk=>⟨h0,h1,C' _,hk,rfl⟩
 | f+1,q,n,i,h0,h1,hk=>by
  have hp:∀ j:Nat,(0:Int) < base ^ j:=fun j=>Int.pow_pos (by rcases hb with rfl|rfl <;> decide)
  rw [TA];split
  ·exact⟨Int.le_refl _,hp _,C' _,hk,rfl⟩
  ·rename_i hd;have hlt:q.k < l.length:=by
    apply Classical.byContradiction;intro hn;apply hd
    right
    unfold nD;rw [if_neg hn];omega
   have hd0:0<=nD l q.k:=Cf
   have hd1:nD l q.k < base:=Cf
   have hm:0<=n*base:=Int.mul_nonneg h0 Cf;obtain⟨a,b,c,d,e⟩:=rE l base hb f ⟨q.k+1,q.out,q.bad⟩ (n*base+nD l q.k) (i+1) Cf F4 Is;exact⟨a,by rw [show i+(f+1)=i+1+f by omega];exact b,by have c:q.k+1<=_:=c;omega,d,e⟩
theorem WH (m:UInt8) (n:Int) (ch:Bool) (q:Qs):(ED m n ch q).k=q.k/\(ED m n ch q).out.length<=q.out.length+4/\q.out.length<=(ED m n ch q).out.length:=by
 have:=cS n;unfold ED;split
 ·exact Cm
 ·split
  ·exact Cm
  ·exact Cn
def qW (c:UInt8):UInt8:=([7,8,12,10,13,9,11,92]:List UInt8)[(Lib.indexByte [97,98,102,110,114,116,118,92] c).toNat]?.getD 0
def zC (l:List UInt8) (m:UInt8) (q:Qs):Qs :=
 if h:q.k < l.length then
  if 0<=Lib.indexByte [97,98,102,110,114,116,118,92] l[q.k] then ⟨q.k+1,q.out++[qW l[q.k]],q.bad⟩
  else if l[q.k]=m then ⟨q.k+1,q.out++[l[q.k]],q.bad⟩
  else if l[q.k]=120 then ED m (TA l 16 2 ⟨q.k+1,q.out,q.bad⟩ 0).1 false (TA l 16 2 ⟨q.k+1,q.out,q.bad⟩ 0).2
  else if l[q.k]=85 then ED m (TA l 16 8 ⟨q.k+1,q.out,q.bad⟩ 0).1 true (TA l 16 8 ⟨q.k+1,q.out,q.bad⟩ 0).2
  else if l[q.k]=117 then ED m (TA l 16 4 ⟨q.k+1,q.out,q.bad⟩ 0).1 true (TA l 16 4 ⟨q.k+1,q.out,q.bad⟩ 0).2
  else ED m ((TA l 8 3 q 0).1 % 256) false ⟨(TA l 8 3 q 0).2.k,(TA l 8 3 q 0).2.out,(TA l 8 3 q 0).2.bad||decide (255 < (TA l 8 3 q 0).1)⟩
 else ⟨q.k,q.out,true⟩
theorem WX {w:World}{c n S:Nat}{a b d e ov:Value}{T E:TypeId}{xs:List Value} (h1:w.heap[c]?=some (.cells #[a,b,d,ov,e] T (0,0))) (h2:w.ownsRow (c+1) E S ov n xs) (x:Value) :
  (w.setCell ⟨c,1,none⟩ x).heap[c]?=some (.cells #[a,x,d,ov,e] T (0,0))/\(w.setCell ⟨c,1,none⟩ x).ownsRow (c+1) E S ov n xs :=
 ⟨G9,rA h2 _ Cm _⟩
theorem ZW:∀ n < 256,0<=Lib.indexByte ([97,98,102,110,114,116,118,92]:List UInt8) (UInt8.ofNat n)->Lib.indexByte ([97,98,102,110,114,116,118,92]:List UInt8) (UInt8.ofNat n) < 8:=Gx
theorem uT (x:UInt8) (h:0<=Lib.indexByte ([97,98,102,110,114,116,118,92]:List UInt8) x):Lib.indexByte ([97,98,102,110,114,116,118,92]:List UInt8) x=0∨Lib.indexByte ([97,98,102,110,114,116,118,92]:List UInt8) x=1∨Lib.indexByte ([97,98,102,110,114,116,118,92]:List UInt8) x=2∨Lib.indexByte ([97,98,102,110,114,116,118,92]:List UInt8) x=3∨Lib.indexByte ([97,98,102,110,114,116,118,92]:List UInt8) x=4∨Lib.indexByte ([97,98,102,110,114,116,118,92]:List UInt8) x=5∨Lib.indexByte ([97,98,102,110,114,116,118,92]:List UInt8) x=6∨Lib.indexByte ([97,98,102,110,114,116,118,92]:List UInt8) x=7:=by
 have:=ZW x.toNat x.toNat_lt;rw [UInt8.ofNat_toNat] at this;have:=this h;omega
theorem CR {c:Nat}{w0:World}{l:List UInt8}{m:UInt8}{k:Nat}{out:List UInt8}{bad:Bool} (H:Rq c w0 l m ⟨k,out,bad⟩ w) (hl:l.length<=1048576) (hkl:k < l.length) (ho:out.length<=4*k) (h1:0<=Lib.indexByte ([97,98,102,110,114,116,118,92]:List UInt8) l[k]) :
  Calls Tryz.prog 170 #[.pointer (some ⟨c,0,none⟩)] w (fun e w'=>e=.returned (.tuple #[])/\Rq c w0 l m (⟨k+1,out++[qW l[k]],bad⟩) w'):=by
 obtain⟨iU,hiU,hz0,hz1,hz2⟩:=info_parts Tryz.infoU8;obtain⟨ov,hblk,hown⟩:=H.blk;obtain⟨c0,c1,c2,c3,c4,f1,f2,f3,f4⟩:=CA hblk;simp only [] at hblk hown c1 c4;have hclt:=lt_of_block hblk;have d1:decide ((l.length:Int)<=(k:Int))=false:=Cn
 have hI:=fun w=>Tryz.strings_IndexByte ⟨([97,98,102,110,114,116,118,92]:List UInt8).toArray⟩ (l[k].toNat:Int) w
 have hc8:((l[k].toNat:Int).toNat.toUInt8)=l[k]:=Cm
 simp only [hc8] at hI;obtain⟨ix,hix⟩:∃ ix,ix=Lib.indexByte ([97,98,102,110,114,116,118,92]:List UInt8) l[k]:=⟨_,rfl⟩;rw [<- hix] at hI h1;have HK:=hid (And.intro hix (And.intro hown (And.intro hblk hkl)));clear hix hown hblk;have hj:=uT l[k] (by rw [<- HK.out.1];exact h1);rw [<- HK.out.1] at hj;have hw8:qW l[k]=([7,8,12,10,13,9,11,92]:List UInt8)[ix.toNat]?.getD 0:=by unfold qW;rw [<- HK.out.1]
 rw [hw8];clear hw8 h1;rcases hj with rfl|rfl|rfl|rfl|rfl|rfl|rfl|rfl
 all_goals
  go_enter Tryz.func170,Tryz.ntmps170;go_wp2_with fail;go_quiet (fail);go_wp2_with fail;generalize nq=na at *;go_quiet (fail);go_wp2_with (go_at_call 118;refine (hI _).mono ?_;rintro e w1 ⟨rfl,rfl⟩);have hR:Rq c w0 l m ⟨k+1,out,bad⟩ ((w.drewN (na+nq)).setCell ⟨c,1,none⟩ (.int .i64 ((k:Int)+1))):=Rq.at_ (Rq.drewN H (na+nq)) (k+1);generalize (w.drewN (na+nq)).setCell ⟨c,1,none⟩ (.int .i64 ((k:Int)+1))=W at *;clear c0 c1 c2 c3 c4 f1 f2 f3 f4;obtain⟨ov,hblk,hown⟩:=hR.blk;obtain⟨c0,c1,c2,c3,c4,f1,f2,f3,f4⟩:=CA hblk;simp only [] at hblk hown;have hclt:=lt_of_block hblk
  go_region_law ((refine step_append_lies _ Ct _ _ _ Ct (c+1) 5 iU _ 1 1 Tryz.underBs hiU hz0 hz1 hz2 rfl Ch ov out.length (Lib.byteCells out) Ct (by first|exact hown.drew.alloc _|exact (hown.alloc _).drew) ⟨W.heap.size,0,none⟩ 1 1 _ Ct Ct (Aq (heap_alloc_new _ _)) Eb Ch Cu Cf Cn _ rfl ?_;intro g cap w2 hown2 hgrow2 hat2 hlt2;have hb2:=uE (by exact ((Ac _ _ _ hclt).trans hblk)) ((hown.alloc _).drew) hgrow2;obtain⟨_,_,_,k3,_,_,_,z3,_⟩:=CA hb2))
  all_goals
   go_wp2_with fail
   (try simp only [Exit.inBlock,Exit.then]);refine bodyPost_ret (results_none rfl _ _ _) rfl ?_
   exact⟨rfl,Rq.push (q:=⟨k+1,out,bad⟩) (bs:=[_]) (hR.bel.drew.alloc (Nat.le_of_lt hclt) _) ((Ac _ _ _ hclt).trans hblk) ((hown.alloc _).drew) hgrow2 hown2 rfl rfl⟩
end
