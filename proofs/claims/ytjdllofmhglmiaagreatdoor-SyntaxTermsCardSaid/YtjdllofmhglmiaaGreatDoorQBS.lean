import Derived.Test.YtjdllofmhglmiaaGreatDoorQBR
import Derived.Test.YtjdllofmhglmiaaGreatDoorQAO
import Derived.Test.YtjdllofmhglmiaaGreatDoorQAW
import Derived.Test.YtjdllofmhglmiaaGreatDoorQAX
import Derived.Test.YtjdllofmhglmiaaGreatDoorQAY
import Derived.Test.YtjdllofmhglmiaaGreatDoorQAZ
import Derived.Test.YtjdllofmhglmiaaGreatDoorQBA
import Derived.Test.YtjdllofmhglmiaaGreatDoorQBE
namespace Go.Proofs.YtjdllofmhglmiaaGreatDoor
open Lib(hid)
set_option linter.all false
set_option maxHeartbeats 40000000
set_option maxRecDepth 100000
namespace Ck
open Go.RowKit
variable {w w':World}
theorem NX2 {l:List UInt8}:∀ (f g p:Nat),l.length<=p+f->l.length<=p+g->dX2 l f p=dX2 l g p
 | 0,0,_,_,_=>rfl
 | 0,g+1,p,h,_=>by unfold dX2;rw [Bc Cs]
 | f+1,0,p,_,h=>by unfold dX2;rw [Bc Cs]
 | f+1,g+1,p,h1,h2=>by
  unfold dX2;by_cases hp:p < l.length
  ·rw [Bb hp,Bb hp];by_cases h0:(vB l p).2=0∨(vB l p).1=0∨(vB l p).1=65279/\0 < p
   ·rw [Bb h0,Bb h0]
   ·rw [Bc h0,Bc h0];have:=FQ5 hp (fun e=>h0 (.inl e));rw [NX2 f g _ Cs Cs]
  ·rw [Bc hp,Bc hp]
theorem UX4 (l:List UInt8) (hs:l.length<=1125899906842624):Calls Tryz.prog 129 #[.string ⟨l.toArray⟩] w fun e w'=>e=.returned (i8 (dX2 l l.length 0))/\Below w.heap.size w w':=by
 obtain⟨T,hT⟩:∃ T,T=dX2 l l.length 0:=⟨_,rfl⟩;rw [<- hT];have HT0:=hid hT;clear hT
 go_in
 go_wp2_with fail
 go_loopw [3] (fun u wr=>∃ p:Nat,u=i8 (p:Int)/\p<=l.length/\Below w.heap.size w wr/\dX2 l (l.length - p) p=T) (fun u _=>l.length - (intOf u).toNat)
 case atStart=>exact⟨0,rfl,Cs,N' _ _,HT0.out.symm⟩
 case round =>
  obtain⟨p,rfl,hp,hbw,ht⟩:=hrel;have HB:=hid hbw;clear hbw;by_cases hlt:p < l.length
  ·have i1:(p:Int) < (l.length:Int):=by omega
   obtain⟨r,hr⟩:∃ r,r=(vB l p).1:=⟨_,rfl⟩;obtain⟨n,hn⟩:∃ n,n=(vB l p).2:=⟨_,rfl⟩;have HR:=hid (fun w=>IQ5 (w:=w) l (p:Int) hs);rw [<- hr,<- hn] at HR;have hu:(if n=0∨r=0∨r=65279/\0 < p then (p:Int) else dX2 l (l.length - p - 1) (p+n.toNat))=T:=by
    rw [<- ht,hr,hn];obtain⟨f,hf⟩:∃ f,l.length - p=f+1:=⟨l.length - p - 1,Cs⟩;rw [hf,Nat.add_sub_cancel]
    conv=>rhs;unfold dX2
    rw [Bb hlt]
   have HN:=hid (fun h0:n≠0=>FQ5 hlt (hn ▸ h0));have HL:=hid hlt;clear ht;by_cases hq:n=0∨r=0∨r=65279/\0 < p
   ·rw [Bb hq] at hu;subst hu;have hq2:((n==0)=true)∨((n==0)=false/\(r==0)=true)∨((n==0)=false/\(r==0)=false/\(r==65279)=true/\(0:Int) < (p:Int)):=by
     by_cases h1:n=0
     ·left;simp [h1]
     ·by_cases h2:r=0
      ·right;left;exact⟨Ea,by simp [h2]⟩
      ·obtain⟨h3,h4⟩:=(hq.resolve_left h1).resolve_left h2
       right;right;exact⟨Ea,Gg,by simp [h3],Cs⟩
    clear hq hr hn HT0 hlt;rcases hq2 with h1|⟨h1,h2⟩|⟨h1,h2,h3,h4⟩
    all_goals
     go_wp2_with fail;refine (HR.out _).mono ?_;rintro e w2 ⟨rfl,hb2⟩;have HB2:=hid (dA HB.out hb2);clear hb2;go_wp2_with fail;go_ret;exact⟨rfl,HB2.out⟩
   ·rw [Bc hq] at hu;have HU:=hid hu;obtain⟨m,hm⟩:∃ m:Nat,m=p+n.toNat:=⟨_,rfl⟩;have h1:¬ n=0:=fun e=>hq (.inl e)
    have h2:¬ r=0:=fun e=>hq (.inr (.inl e))
    have hb:=HN.out h1;rw [<- hn] at hb;have hsum:IntKind.i64.wrap ((p:Int)+n)=(m:Int):=Cy
    have HM:=hid (show m<=l.length/\p < m from Cs);have HMM:=hid hm;have e1:(n==0)=false:=Ea
    have e2:(r==0)=false:=Gg
    by_cases h3:r=65279
    ·have h4:¬ 0 < p:=fun e=>hq (.inr (.inr ⟨h3,e⟩))
     have e3:(r==65279)=true:=by simp [h3]
     have i4:¬ (0:Int) < (p:Int):=Cs
     clear hu hq hr hn HT0 hlt hb h1 h2 h3 h4 hm;exact zbd
    ·have e3:(r==65279)=false:=by simpa using h3
     clear hu hq hr hn HT0 hlt hb h1 h2 h3 hm;exact zbd
  ·have hpe:p=l.length:=by omega
   have i1:¬ (p:Int) < (l.length:Int):=Cs
   have HE:=hid (show (-1:Int)=T from by rw [<- ht,hpe,Nat.sub_self];rfl);clear ht HT0 hpe;exact zc0
theorem YX2 (r:Int):Calls Tryz.prog 164 #[i8 r] w fun e w'=>e=.returned (.bool (RI r))/\w'=w:=by
 have hT:RI r=(((r==9)||(r==10))||(r==13)||(r==32)):=by
  unfold RI;rw [Bg];simp;omega
 rw [hT];clear hT
 go_in
 cases h1:(r==9) <;> cases h2:(r==10) <;> cases h3:(r==13) <;> cases h4:(r==32)
 all_goals
  go_wp2_with fail;go_ret;exact⟨rfl,rfl⟩
theorem vX7 (t m:List UInt8):(m.take t.length==t)=t.isPrefixOf m:=by
 rw [Bg,Bh,List.isPrefixOf_iff_prefix,List.prefix_iff_eq_take];exact⟨Eq.symm,Eq.symm⟩
theorem fX2 (l t:List UInt8) (k:Nat) (hs:l.length<=1125899906842624) (ht:t.length<=1000) (hk:k<=l.length):Calls Tryz.prog 166 #[.string ⟨l.toArray⟩,i8 (k:Int),.string ⟨t.toArray⟩] w fun e w'=>e=.returned (.bool (t.isPrefixOf (l.drop k)))/\w'=w:=by
 obtain⟨T,hT⟩:∃ T,T=t.isPrefixOf (l.drop k):=⟨_,rfl⟩;rw [<- hT];have hsub:IntKind.i64.wrap ((l.length:Int) - (k:Int))=((l.length - k:Nat):Int):=Cy
 by_cases hl:t.length<=l.length - k
 ·have hadd:IntKind.i64.wrap ((k:Int)+(t.length:Int))=((k+t.length:Nat):Int):=by simp [IntKind.wrap,IntKind.bits,IntKind.signed];omega
  have i1:(t.length:Int)<=((l.length - k:Nat):Int):=Cs
  have i2:(k:Int)<=((k+t.length:Nat):Int):=Cs
  have i3:((k+t.length:Nat):Int)<=(l.length:Int):=Cs
  have HT:=hid hT;clear hT hl
  go_in
  go_wp2_with fail;go_ret;exact⟨by rw [HT.out,<- vX7];rfl,rfl⟩
 ·have i1:¬ (t.length:Int)<=((l.length - k:Nat):Int):=by omega
  have hf:T=false:=by
   rw [hT,Bool.eq_false_iff];intro h;have:=(List.isPrefixOf_iff_prefix.1 h).length_le;rw [Ab] at this;omega
  rw [hf];clear hT hl hf
  go_in
  exact zaq
theorem LX5 (l:List UInt8) (k:Nat) (hs:l.length<=1125899906842624) (hk:k<=l.length):Calls Tryz.prog 165 #[.string ⟨l.toArray⟩,i8 (k:Int),i8 0] w fun e w'=>e=.returned (i8 ((TX2 l l.length k:Nat):Int))/\Below w.heap.size w w':=by
 obtain⟨T,hT⟩:∃ T,T=TX2 l l.length k:=⟨_,rfl⟩;rw [<- hT];have HT0:=hid hT;clear hT
 go_in
 go_wp2_with fail
 go_loopw [1] (fun u wr=>∃ p f:Nat,u=i8 (p:Int)/\p<=l.length/\l.length<=p+f/\Below w.heap.size w wr/\TX2 l f p=T) (fun u _=>l.length - (intOf u).toNat)
 case atStart=>exact⟨k,l.length,rfl,hk,Cs,N' _ _,HT0.out.symm⟩
 case round =>
  obtain⟨p,f,rfl,hp,hpf,hbw,ht⟩:=hrel;have HB:=hid hbw;clear hbw HT0;by_cases hlt:p < l.length
  ·have i1:(p:Int) < (l.length:Int):=by omega
   obtain⟨g,rfl⟩:∃ g,f=g+1:=⟨f - 1,Cs⟩;have HG:=hid (show l.length<=p+(g+1) from hpf);obtain⟨r,hr⟩:∃ r,r=(vB l p).1:=⟨_,rfl⟩;obtain⟨n,hn⟩:∃ n,n=(vB l p).2:=⟨_,rfl⟩;have HR:=hid (fun w=>IQ5 (w:=w) l (p:Int) hs);rw [<- hr,<- hn] at HR;have hu:(if n=0∨RI r=false then p else TX2 l g (p+n.toNat))=T:=by
    rw [<- ht,hr,hn]
    conv=>rhs;unfold TX2
    rw [Bb hlt]
   have HN:=hid (fun h0:n≠0=>FQ5 hlt (hn ▸ h0));clear ht;by_cases h1:n=0
   ·exact zbu
   ·have e1:(n==0)=false:=by simpa using h1
    obtain⟨m,hm⟩:∃ m:Nat,m=p+n.toNat:=⟨_,rfl⟩;have hb:=HN.out h1;rw [<- hn] at hb;have hsum:IntKind.i64.wrap ((p:Int)+n)=(m:Int):=Cy
    have HM:=hid (show m<=l.length/\p < m from Cs);rw [<- hm] at hu;have HU:=hid hu;have H1:=hid h1;clear hu h1 hr hn hlt hb hm hpf;go_wp2_with fail;refine (HR.out _).mono ?_;rintro e w2 ⟨rfl,hb2⟩;have HB2:=hid (dA HB.out hb2);clear hb2;go_wp2_with fail;refine (YX2 _).mono ?_;rintro e w3 ⟨rfl,rfl⟩;cases hq:RI r with
    | false =>
     have hu:=HU.out;rw [Bb (.inr hq)] at hu;subst hu;go_wp2_with fail;go_ret;exact⟨rfl,HB2.out⟩
    | true =>
     have hu:=HU.out;rw [Bc (fun e=>e.elim H1.out (fun e=>by rw [hq] at e;cases e))] at hu;have HV:=hid hu;clear hu;go_wp2_with fail;go_roundw
     case rel=>exact⟨m,g,rfl,HM.out.1,Hc,HB2.out,HV.out⟩
     case measure=>have:=HM.out;simp [intOf];omega
  ·have hpe:p=l.length:=by omega
   have i1:¬ (p:Int) < (l.length:Int):=Cs
   have HE:=hid (show p=T from by
    rw [<- ht];cases f with
    | zero=>rfl
    | succ f=>unfold TX2;rw [Bc hlt])
   clear ht hpe hpf;exact zc0
theorem lX5 (l:List UInt8) (k:Nat) (hs:l.length<=1125899906842624) (hk:k<=l.length):Calls Tryz.prog 165 #[.string ⟨l.toArray⟩,i8 (k:Int),i8 1] w fun e w'=>e=.returned (i8 ((CX1 l l.length k:Nat):Int))/\Below w.heap.size w w':=by
 obtain⟨T,hT⟩:∃ T,T=CX1 l l.length k:=⟨_,rfl⟩;rw [<- hT];have HT0:=hid hT;clear hT
 go_in
 go_wp2_with fail
 go_loopw [1] (fun u wr=>∃ p f:Nat,u=i8 (p:Int)/\p<=l.length/\l.length<=p+f/\Below w.heap.size w wr/\CX1 l f p=T) (fun u _=>l.length - (intOf u).toNat)
 case atStart=>exact⟨k,l.length,rfl,hk,Cs,N' _ _,HT0.out.symm⟩
 case round =>
  obtain⟨p,f,rfl,hp,hpf,hbw,ht⟩:=hrel;have HB:=hid hbw;clear hbw HT0;by_cases hlt:p < l.length
  ·have i1:(p:Int) < (l.length:Int):=by omega
   obtain⟨g,rfl⟩:∃ g,f=g+1:=⟨f - 1,Cs⟩;have HG:=hid (show l.length<=p+(g+1) from hpf);obtain⟨r,hr⟩:∃ r,r=(vB l p).1:=⟨_,rfl⟩;obtain⟨n,hn⟩:∃ n,n=(vB l p).2:=⟨_,rfl⟩;have HR:=hid (fun w=>IQ5 (w:=w) l (p:Int) hs);rw [<- hr,<- hn] at HR;have hu:(if n=0∨oB r=false/\digitB r=false then p else CX1 l g (p+n.toNat))=T:=by
    rw [<- ht,hr,hn]
    conv=>rhs;unfold CX1
    rw [Bb hlt]
   have HN:=hid (fun h0:n≠0=>FQ5 hlt (hn ▸ h0));clear ht;by_cases h1:n=0
   ·exact zbu
   ·have e1:(n==0)=false:=by simpa using h1
    obtain⟨m,hm⟩:∃ m:Nat,m=p+n.toNat:=⟨_,rfl⟩;have hb:=HN.out h1;rw [<- hn] at hb;have hsum:IntKind.i64.wrap ((p:Int)+n)=(m:Int):=Cy
    have HM:=hid (show m<=l.length/\p < m from Cs);rw [<- hm] at hu;have HU:=hid hu;have H1:=hid h1;clear hu h1 hr hn hlt hb hm hpf;go_wp2_with fail;refine (HR.out _).mono ?_;rintro e w2 ⟨rfl,hb2⟩;have HB2:=hid (dA HB.out hb2);clear hb2;go_wp2_with fail;refine (oQ5 _).mono ?_;rintro e w3 ⟨rfl,hb3⟩;have HB3:=hid (dA HB2.out hb3);clear hb3;cases hq:oB r with
    | true =>
     have hu:=HU.out;rw [Bc (fun e=>e.elim H1.out (fun e=>by rw [hq] at e;cases e.1))] at hu;have HV:=hid hu;clear hu;go_wp2_with fail;go_roundw
     case rel=>exact⟨m,g,rfl,HM.out.1,Hc,HB3.out,HV.out⟩
     case measure=>have:=HM.out;simp [intOf];omega
    | false =>
     go_wp2_with fail;refine (IQ6 _).mono ?_;rintro e w4 ⟨rfl,hb4⟩;have HB4:=hid (dA HB3.out hb4);clear hb4;cases hq2:digitB r with
     | true =>
      have hu:=HU.out;rw [Bc (fun e=>e.elim H1.out (fun e=>by rw [hq2] at e;cases e.2))] at hu;have HV:=hid hu;clear hu;go_wp2_with fail;go_roundw
      case rel=>exact⟨m,g,rfl,HM.out.1,Hc,HB4.out,HV.out⟩
      case measure=>have:=HM.out;simp [intOf];omega
     | false =>
      have hu:=HU.out;rw [Bb (.inr ⟨hq,hq2⟩)] at hu;subst hu;go_wp2_with fail;go_ret;exact⟨rfl,HB4.out⟩
  ·have hpe:p=l.length:=by omega
   have i1:¬ (p:Int) < (l.length:Int):=Cs
   have HE:=hid (show p=T from by
    rw [<- ht];cases f with
    | zero=>rfl
    | succ f=>unfold CX1;rw [Bc hlt])
   clear ht hpe hpf;exact zc0
theorem nX6:Calls Tryz.prog 171 #[] w fun e w'=>e=.returned (.slice (some (y8 w.heap.size 0)) 47 47)/\w'=w.alloc (.cells (MQ4 rX0).toArray 9):=by
 go_in
 exact zaq
end Ck
namespace Num
open Go.RowKit
def BX0 (l:List UInt8) (k:Nat):Bool :=
  decide (k < l.length)&&(dg 10 (l[k]?.getD 0)||(decide (bat l k=46)&&decide (k+1 < l.length)&&dg 10 (l[k+1]?.getD 0)))
def alR (c:Int):Bool:=decide ((48<=c/\c<=57)∨(97<=c/\c<=122)∨(65<=c/\c<=90)∨c=95∨c=46)
def nX0 (l:List UInt8) (hex:Bool) (k tx:Nat):Bool :=
  alR (bat l tx)||(decide (k < tx)&&decide (bat l tx=43∨bat l tx=45)&&((!hex&&decide (bat l (tx - 1)=101∨bat l (tx - 1)=69))||(hex&&decide (bat l (tx - 1)=112∨bat l (tx - 1)=80))))
def tX0 (l:List UInt8) (hex:Bool) (k:Nat):Nat:=oJ (nX0 l hex k) (l.length - k) k
theorem UX7 (l:List UInt8) (at':Int) (w:World) (hs:l.length<=1125899906842624) (h:at' < 0∨BX0 l at'.toNat=false) :
    Calls Tryz.prog 212 #[.string ⟨l.toArray⟩,i8 at'] w fun e w'=>e=.returned (i8 at')/\w=w':=by
  by_cases h0:0<=at'
  · obtain⟨k,rfl⟩:=Ad h0
    have h:BX0 l k=false:=by rcases h with h|h;(exfalso;omega);simpa using h
    have H:=hid h;clear h;by_cases hk:k < l.length
    · go_in
      go_wp2_with (first|(go_at_call 247;refine (YQ5 _ _ _ Cs Cs).mono ?_;rintro e w1 ⟨rfl,rfl⟩))
      all_goals first
        | (go_ret;exact⟨rfl,Df⟩)
        | (exfalso;have h:=H.out;simp_all [BX0,bat];done)
        | (exfalso;have h:=H.out;simp_all [BX0,bat];omega)
    · go_in
      go_wp2_with fail
      all_goals go_ret
      all_goals exact⟨rfl,Df⟩
  · go_in
    go_wp2_with fail
    all_goals go_ret
    all_goals exact⟨rfl,Df⟩
theorem eX8 (l:List UInt8) (k:Nat) (w:World) (hs:l.length<=1125899906842624) (hk:k < l.length) (hd:dg 10 l[k]=true) (hh:tQ4 120 88 (l.drop k)=false) :
    Calls Tryz.prog 212 #[.string ⟨l.toArray⟩,i8 k] w fun e w'=>e=.returned (i8 (tX0 l false k))/\w=w':=by
  go_in
  go_wp2_with (first
    | (go_at_call 248;refine (lQ5 _ _ _ _ Cz).mono ?_;rintro e w1 ⟨rfl,rfl⟩)
    | (go_at_call 247;refine (YQ5 _ _ _ Cs Cs).mono ?_;rintro e w1 ⟨rfl,rfl⟩))
  clear hd
  go_loop [6] (fun u=>∃ tx:Nat,k<=tx/\tx<=l.length/\u=i8 tx/\oJ (nX0 l false k) (l.length - tx) tx=tX0 l false k) (fun u=>l.length - (intOf u).toNat)
  case atStart=>exact⟨k,C' _,Cs,rfl,rfl⟩
  case round =>
    exact zak
theorem BX8 (l:List UInt8) (k:Nat) (w:World) (hs:l.length<=1125899906842624) (hk:k < l.length) (hd:dg 10 l[k]=false) (h46:(l[k].toNat:Int)=46) (hk1:k+1 < l.length) (hd1:dg 10 l[k+1]=true) (hh:tQ4 120 88 (l.drop k)=false) :
    Calls Tryz.prog 212 #[.string ⟨l.toArray⟩,i8 k] w fun e w'=>e=.returned (i8 (tX0 l false k))/\w=w':=by
  have k2:((k:Int)+1==l.length)=false:=Cv
  have h46':((l[k].toNat:Int) != 46)=false:=by simp [h46]
  have k3:(k:Int)+1 < l.length:=Cs
  have k4:0<=(k:Int)+1:=Cs
  clear h46
  go_in
  go_wp2_with (first
    | (go_at_call 248;refine (lQ5 _ _ _ _ Cz).mono ?_;rintro e w1 ⟨rfl,rfl⟩)
    | (go_at_call 247;refine (YQ5 _ _ _ Cs Cs).mono ?_;rintro e w1 ⟨rfl,rfl⟩))
  clear hd
  go_loop [6] (fun u=>∃ tx:Nat,k<=tx/\tx<=l.length/\u=i8 tx/\oJ (nX0 l false k) (l.length - tx) tx=tX0 l false k) (fun u=>l.length - (intOf u).toNat)
  case atStart=>exact⟨k,C' _,Cs,rfl,rfl⟩
  case round =>
    exact zak
theorem kX8 (l:List UInt8) (k:Nat) (w:World) (hs:l.length<=1125899906842624) (hk:k < l.length) (hd:dg 10 l[k]=true) (hh:tQ4 120 88 (l.drop k)=true) :
    Calls Tryz.prog 212 #[.string ⟨l.toArray⟩,i8 k] w fun e w'=>e=.returned (i8 (tX0 l true k))/\w=w':=by
  go_in
  go_wp2_with (first
    | (go_at_call 248;refine (lQ5 _ _ _ _ Cz).mono ?_;rintro e w1 ⟨rfl,rfl⟩)
    | (go_at_call 247;refine (YQ5 _ _ _ Cs Cs).mono ?_;rintro e w1 ⟨rfl,rfl⟩))
  clear hd
  go_loop [6] (fun u=>∃ tx:Nat,k<=tx/\tx<=l.length/\u=i8 tx/\oJ (nX0 l true k) (l.length - tx) tx=tX0 l true k) (fun u=>l.length - (intOf u).toNat)
  case atStart=>exact⟨k,C' _,Cs,rfl,rfl⟩
  case round =>
    exact zal
theorem dX8 (l:List UInt8) (k:Nat) (w:World) (hs:l.length<=1125899906842624) (hk:k < l.length) (hd:dg 10 l[k]=false) (h46:(l[k].toNat:Int)=46) (hk1:k+1 < l.length) (hd1:dg 10 l[k+1]=true) (hh:tQ4 120 88 (l.drop k)=true) :
    Calls Tryz.prog 212 #[.string ⟨l.toArray⟩,i8 k] w fun e w'=>e=.returned (i8 (tX0 l true k))/\w=w':=by
  have k2:((k:Int)+1==l.length)=false:=Cv
  have h46':((l[k].toNat:Int) != 46)=false:=by simp [h46]
  have k3:(k:Int)+1 < l.length:=Cs
  have k4:0<=(k:Int)+1:=Cs
  clear h46
  go_in
  go_wp2_with (first
    | (go_at_call 248;refine (lQ5 _ _ _ _ Cz).mono ?_;rintro e w1 ⟨rfl,rfl⟩)
    | (go_at_call 247;refine (YQ5 _ _ _ Cs Cs).mono ?_;rintro e w1 ⟨rfl,rfl⟩))
  clear hd
  go_loop [6] (fun u=>∃ tx:Nat,k<=tx/\tx<=l.length/\u=i8 tx/\oJ (nX0 l true k) (l.length - tx) tx=tX0 l true k) (fun u=>l.length - (intOf u).toNat)
  case atStart=>exact⟨k,C' _,Cs,rfl,rfl⟩
  case round =>
    exact zal
end Num
namespace Num
open Go.RowKit
theorem cX4 (l:List UInt8) (k:Nat):eE l k=BX0 l k:=by
  unfold eE BX0 dg;rw [Bg];simp only [Bz,Bv,Bq,Ai];constructor
  · rintro⟨h1,h2⟩
    refine⟨Cs,?_⟩;rcases h2 with h2|h2
    · exact .inl h2
    · exact .inr ⟨⟨h2.1.1,Cs⟩,h2.2⟩
  · rintro⟨h1,h2⟩
    refine⟨Cs,?_⟩;rcases h2 with h2|h2
    · exact .inl h2
    · exact .inr ⟨⟨h2.1.1,Cs⟩,h2.2⟩
theorem xX5 (l:List UInt8) (a:Int) (h:a < 0):eE l a=false:=by
  unfold eE;rw [decide_eq_false Cs];rfl
theorem uX8 (l:List UInt8) (k:Nat):bM l k=tQ4 120 88 (l.drop k):=by
  unfold bM;generalize l.drop k=t
  match t with
  | []=>simp [Lib.hasPrefix,tQ4]
  | [z]=>simp [Lib.hasPrefix,tQ4,List.isPrefixOf]
  | z::c::r =>
    rw [LQ6];simp only [Lib.hasPrefix,List.isPrefixOf,Bool.and_true];rw [Bg];have e1:=i48 z;have e2:=u8n c 120 Ct;have e3:=u8n c 88 Ct;simp only [Bv,Bz,Bh,Bq];constructor
    · rintro (⟨h1,h2⟩|⟨h1,h2⟩)
      · exact⟨e1.2 h1.symm,.inl (e2.2 h2.symm)⟩
      · exact⟨e1.2 h1.symm,.inr (e3.2 h2.symm)⟩
    · rintro⟨h1,h2|h2⟩
      · exact .inl ⟨(e1.1 h1).symm,(e2.1 h2).symm⟩
      · exact .inr ⟨(e1.1 h1).symm,(e3.1 h2).symm⟩
theorem eZ0 (c:UInt8):alB (c.toNat:Int)=alR (c.toNat:Int):=by
  unfold alB alR val;have:=c.toNat_lt;rw [Bg];simp only [Bq];omega
theorem DX8:∀ c:Fin 256,decide (GL (c.val:Int)=112)=decide ((c.val:Int)=112∨(c.val:Int)=80)/\decide (GL (c.val:Int)=101)=decide ((c.val:Int)=101∨(c.val:Int)=69):=Ef
theorem WX7 (l:List UInt8) (hex:Bool) (k tx:Nat):mE l hex k tx=nX0 l hex k tx:=by
  unfold mE nX0 bat;rw [eZ0];have h:=DX8 ⟨(l[tx - 1]?.getD 0).toNat,(l[tx - 1]?.getD 0).toNat_lt⟩;simp only [] at h
  congr 1
  rw [Bool.and_comm (decide _) (decide (k < tx))]
  congr 1
  cases hex
  · simp only [Ba,Bf,Bu,Bool.true_and,Bool.false_and,Bool.or_false];exact h.2
  · simp only [Be,Bool.not_true,Bool.true_and,Bool.false_and,Bool.false_or];exact h.1
theorem yX9 (l:List UInt8) (hex:Bool) (k:Nat):QH l hex k=tX0 l hex k:=by
  unfold QH tX0;have:mE l hex k=nX0 l hex k:=funext fun i=>WX7 l hex k i
  rw [this]
theorem mS (cont:Nat->Bool):∀ (f tx:Nat),tx<=oJ cont f tx/\oJ cont f tx<=tx+f:=by
  intro f
  induction f with
  | zero=>intro tx;exact⟨C' _,C' _⟩
  | succ f ih =>
    intro tx;rw [oJ];split
    · have:=ih (tx+1);omega
    · omega
theorem tX7 (l:List UInt8) (hex:Bool) (k:Nat) (h:BX0 l k=true):k < tX0 l hex k/\tX0 l hex k<=l.length:=by
  have h2:k < l.length/\alR (bat l k)=true:=by
    unfold BX0 at h;simp only [Bz,Bv,Bq,dg] at h;refine⟨h.1,?_⟩;unfold alR bat at *;have:=(l[k]?.getD 0).toNat_lt;simp only [Bq];rcases h.2 with h3|h3
    · unfold val at h3;omega
    · omega
  unfold tX0;obtain⟨f,hf⟩:∃ f,l.length - k=f+1:=⟨l.length - k - 1,Cs⟩;have hc:nX0 l hex k k=true:=by unfold nX0;rw [h2.2];rfl
  rw [hf,oJ,Bb hc];have:=mS (nX0 l hex k) f (k+1);omega
def GX7 (t:Int × Int × Int):Value:=.tuple #[.int .u8 t.1,i8 t.2.1,i8 t.2.2]
theorem hX7 (l:List UInt8) (k:Nat) (w:World) (hs:l.length<=1125899906842624) (h:BX0 l k=true) :
    Calls Tryz.prog 212 #[.string ⟨l.toArray⟩,i8 k] w fun e w'=>e=.returned (i8 (tX0 l (tQ4 120 88 (l.drop k)) k))/\w=w':=by
  have hk:k < l.length:=by unfold BX0 at h;simp only [Bz,Bq] at h;exact h.1
  unfold BX0 at h;simp only [bat,Bz,Bv,Bq,O' hk,Option.getD_some] at h;by_cases hd:dg 10 l[k]=true
  · cases hh:tQ4 120 88 (l.drop k)
    · exact eX8 l k w hs hk hd hh
    · exact kX8 l k w hs hk hd hh
  · have h:=h.2.resolve_left hd
    have hd:dg 10 l[k]=false:=by simpa using hd
    have h3:=h.2;rw [O' h.1.2] at h3;cases hh:tQ4 120 88 (l.drop k)
    · exact BX8 l k w hs hk hd h.1.1 h.1.2 h3 hh
    · exact dX8 l k w hs hk hd h.1.1 h.1.2 h3 hh
theorem iZ0 (l:List UInt8) (a:Int) (w:World) (hs:l.length<=1125899906842624) :
    Calls Tryz.prog 169 #[.string ⟨l.toArray⟩,i8 a] w fun e w'=>e=.returned (GX7 (YE l a))/\w=w':=by
  by_cases h0:eE l a=true
  · have ha:0<=a:=by
      apply Classical.byContradiction;intro hn;rw [xX5 l a Cs] at h0;cases h0
    obtain⟨k,rfl⟩:=Ad ha;have hR:BX0 l k=true:=by rw [<- cX4];exact h0
    have hgt:=tX7 l (tQ4 120 88 (l.drop k)) k hR;have hfin:YE l k=if KQ5 ((l.drop k).take (tX0 l (tQ4 120 88 (l.drop k)) k - k))≠0 then (KQ5 ((l.drop k).take (tX0 l (tQ4 120 88 (l.drop k)) k - k)),(tX0 l (tQ4 120 88 (l.drop k)) k:Int),0) else (0,0,4):=by
      unfold YE;rw [Bb h0,Ai];unfold OG;simp only [uX8,yX9,ZQ8]
    have Hfin:=hid hfin;have H1:=hX7 l k w hs hR;generalize tX0 l (tQ4 120 88 (l.drop k)) k=tx at *;have HH:=hid H1;clear hfin h0 hR H1;obtain⟨g1,g2⟩:=hgt;have hne:((tx:Int)==k)=false:=Cv
    go_in
    go_wp2_with (first
      | (go_at_call 212;refine HH.out.mono ?_;rintro e w1 ⟨rfl,rfl⟩)
      | (go_at_call 213;refine (MQ9 _ _ Cz).mono ?_;rintro e w1 ⟨rfl,rfl⟩))
    all_goals go_ret3
    all_goals
      (go_tidy
       rw [Hfin.out];refine⟨TG ?_,Df⟩;unfold GX7
       simp_all)
  · have h0:eE l a=false:=by simpa using h0
    have hno:a < 0∨BX0 l a.toNat=false:=by
      by_cases h:a < 0
      · exact .inl h
      · right;rw [<- cX4,Int.toNat_of_nonneg Cs];exact h0
    unfold YE;rw [Bc Lk]
    go_in
    go_wp2_with (first|(go_at_call 212;refine (UX7 _ _ _ hs hno).mono ?_;rintro e w1 ⟨rfl,rfl⟩))
    all_goals go_ret3
    all_goals exact⟨rfl,Df⟩
end Num
namespace Ck
open Go.RowKit
def dX6 (l:List UInt8) (k:Nat):Int × Int :=
 if (vB l k).1=65279 then (10,k+(vB l k).2)
 else if RI (vB l k).1=true then (10,(TX2 l l.length k:Nat))
 else if ([47,47]:List UInt8).isPrefixOf (l.drop k)=true then (11,(qX2 l l.length k:Nat))
 else if ([47,42]:List UInt8).isPrefixOf (l.drop k)=true then (match DX1 l l.length (k+2) with|some e=>(12,(e:Nat))|none=>(0,0))
 else if oB (vB l k).1=true then (uI l k,(CX1 l l.length k:Nat))
 else if (Num.YE l k).2.2≠15 then ((Num.YE l k).1,(Num.YE l k).2.1)
 else if (YA l k).e≠15 then ((YA l k).k,(YA l k).tx)
 else if l[k]?=some 59 then (9,(k:Int)+1)
 else if MX0 (l.drop k) rX0 0=0 then (0,0) else (8,(k:Int)+(MX0 (l.drop k) rX0 0:Nat))
structure lZ0 (l:List UInt8) (k:Nat):Prop where
 eq:((vB l k).1=59)↔l[k]?=some 59
 num:l[k]?=some 59->(Num.YE l k).2.2=15
 quo:l[k]?=some 59->(YA l k).e=15
theorem mX9 {l:List UInt8}{k:Nat} (hk:k < l.length) (hS:lZ0 l k):dX6 l k=cB l k:=by
 unfold dX6 cB;by_cases h1:(vB l k).1=65279
 ·rw [Bb h1,Bb (c:=((vB l k).1==65279)=true) Ea]
 rw [Bc h1,Bc (c:=((vB l k).1==65279)=true) Ea];by_cases h2:RI (vB l k).1=true
 ·simp only [Bb h2];have:=bX4 l k l.length 0 Cs Cs (fun j b hj=>absurd hj Cs);rw [Nat.add_zero] at this;have ht:=mI (l.drop k) [32,9,13,10];rw [Ab] at ht;rw [this]
  congr 1
  omega
 simp only [Bc h2];by_cases h3:([47,47]:List UInt8).isPrefixOf (l.drop k)=true
 ·rw [Bb h3,Bb (c:=Lib.hasPrefix (l.drop k) [47,47]=true) h3];have:=YX5 l k Cs l.length 0 Cs Cs (fun j hj=>absurd hj Cs);rw [Nat.add_zero] at this;rw [this];by_cases hi:0<=Lib.indexByte (l.drop k) 10
  ·rw [Bb hi,Bb (c:=decide (0<=Lib.indexByte (l.drop k) 10)=true) Ke]
   congr 1
   omega
  ·rw [Bc hi,Bc (c:=decide (0<=Lib.indexByte (l.drop k) 10)=true) Ke]
 rw [Bc h3,Bc (c:=Lib.hasPrefix (l.drop k) [47,47]=true) h3];by_cases h4:([47,42]:List UInt8).isPrefixOf (l.drop k)=true
 ·rw [Bb h4,Bb (c:=Lib.hasPrefix (l.drop k) [47,42]=true) h4];have:=dX5 l (k+2) l.length 0 Cs (fun j hj=>absurd hj Cs);rw [Nat.add_zero] at this;rw [this];by_cases hi:0<=Lib.index (l.drop (k+2)) [42,47]
  ·rw [Bb hi,Bb (c:=decide (0<=Lib.index (l.drop (k+2)) [42,47])=true) Ke]
   dsimp only
   congr 1
   omega
  ·rw [Bc hi,Bc (c:=decide (0<=Lib.index (l.drop (k+2)) [42,47])=true) Ke]
 rw [Bc h4,Bc (c:=Lib.hasPrefix (l.drop k) [47,42]=true) h4];by_cases h5:oB (vB l k).1=true
 ·simp only [Bb h5];have:=RX2 l k l.length (l.drop k).length 0 Cs Fb Cs;rw [Nat.add_zero] at this;rw [this]
  rfl
 simp only [Bc h5];by_cases h6:l[k]?=some 59
 ·rw [Bc (by rw [hS.num h6];decide),Bc (by rw [hS.quo h6];decide),Bb h6,Bb (c:=((vB l k).1==59)=true) (by simpa using hS.eq.2 h6)]
 rw [Bc (c:=((vB l k).1==59)=true) (fun e=>h6 (hS.eq.1 Fa))];by_cases h7:(Num.YE l k).2.2=15
 ·rw [Bc (by rw [h7];decide),Bc (c:=((Num.YE l k).2.2 != 15)=true) (by rw [h7];decide)];by_cases h8:(YA l k).e=15
  ·rw [Bc (by rw [h8];decide),Bc (c:=((YA l k).e != 15)=true) (by rw [h8];decide),Bc h6,KX6];by_cases h9:CG (l.drop k)=0
   ·rw [Bb h9,Bc (c:=decide (0 < CG (l.drop k))=true) (by simp [h9])]
   ·rw [Bc h9,Bb (c:=decide (0 < CG (l.drop k))=true) Cv]
  ·rw [Bb h8,Bb (c:=((YA l k).e != 15)=true) (by simpa using h8)]
 ·rw [Bb h7,Bb (c:=((Num.YE l k).2.2 != 15)=true) (by simpa using h7)]
theorem sX8 {l:List UInt8}{k:Nat} (hk:k < l.length):lZ0 l k:=by
 obtain⟨b,hb⟩:∃ b,b=l[k]:=⟨_,rfl⟩;have hg:l[k]?=some b:=by rw [O' hk,hb]
 have hd:l.drop k=b::l.drop (k+1):=by rw [hb];exact Aq hk
 refine⟨⟨fun h=>?_,fun h=>?_⟩,fun h=>?_,fun h=>?_⟩
 ·rcases OQ6 hk with ⟨h1,h0⟩|⟨h1,h2⟩
  ·exfalso
   unfold vB at h h1;split at h
   ·simp at h
   ·split at h
    ·simp at h
    ·rename_i a1 a2;rw [Bc a1,Bc a2] at h1;have:=eG (l:=l.drop k) Hy;simp only [Ai] at h1;omega
  ·rw [h2] at h;simp only [] at h;obtain⟨b2,r2,e1,e2⟩:=pT (l:=l.drop k) Hy Cs;rw [hd] at e1;cases e1;rw [hg];have:b=59:=UInt8.toNat.inj (show b.toNat=59 by omega);rw [this]
 ·rw [hg] at h;cases h;rw [MX2 hd hk Ct]
  rfl
 ·rw [hg] at h;cases h;have hbe:Num.eE l k=false:=by
   unfold Num.eE Num.bat;simp only [Ai,hg];simp [Num.val]
  unfold Num.YE;rw [Bc (by rw [hbe];decide)]
 ·rw [hg] at h;cases h;unfold YA;rw [dif_pos Cs,Bb (by simp only [Ai,<- hb];decide)]
end Ck
namespace Ck
open Go.RowKit
variable {w w':World}
theorem CX2 (k:UInt8):Calls Tryz.prog 82 #[.int .u8 (k.toNat:Int)] w fun e w'=>e=.returned (.bool (kJ k))/\w'=w:=by
 obtain⟨T,hT⟩:∃ T,T=kJ k:=⟨_,rfl⟩;rw [<- hT];have hk:=k.toNat_lt;have hv:T=(decide (10<=(k.toNat:Int))&&decide ((k.toNat:Int)<=12)):=by
  rw [hT];have:∀ c:Fin 256,kJ (UInt8.ofNat c.val)=(decide (10<=(c.val:Int))&&decide ((c.val:Int)<=12)):=Ef
  have h:=this ⟨k.toNat,hk⟩;simp only [UInt8.ofNat_toNat] at h;exact h
 clear hT;by_cases h1:10<=(k.toNat:Int)
 ·by_cases h2:(k.toNat:Int)<=12
  ·have:T=true:=by rw [hv];simp [h1,h2]
   rw [this];clear this hv
   go_in
   exact zaq
  ·have:T=false:=by rw [hv];simp [h2]
   rw [this];clear this hv
   go_in
   exact zaq
 ·have:T=false:=by rw [hv];simp [h1]
  rw [this];clear this hv
  go_in
  exact zaq
abbrev gZ0 (t:Tk):Value:=.agg #[.int .u8 (t.kind.toNat:Int),i8 (t.fr:Int),i8 (t.to:Int)]
theorem uX3 (s:List UInt8) (t:Tk) (hs:s.length<=1125899906842624) (h1:t.fr<=t.to) (h2:t.to<=s.length):Calls Tryz.prog 47 #[.string ⟨s.toArray⟩,gZ0 t] w fun e w'=>e=.returned (i8 (GX0 s t))/\Below w.heap.size w w':=by
 obtain⟨T,hT⟩:∃ T,T=GX0 s t:=⟨_,rfl⟩;rw [<- hT];have hB:=hid ((N' w.heap.size w).alloc (C' _) (Obj.cells #[.int .u8 (t.kind.toNat:Int),i8 (t.fr:Int),i8 (t.to:Int)] 56));obtain⟨c0,c1,c2,_⟩:=uA (B8 w (Obj.cells #[.int .u8 (t.kind.toNat:Int),i8 (t.fr:Int),i8 (t.to:Int)] 56));have i1:(t.fr:Int)<=(t.to:Int):=Cs
 have i2:(t.to:Int)<=(s.length:Int):=Cs
 unfold GX0 at hT;by_cases h8:t.kind=8
 ·rw [Bb h8] at hT;have d8:((t.kind.toNat:Int) != 8)=false:=by rw [h8];rfl
  have hx:((s.drop t.fr).take (t.to - t.fr))=oG s t:=rfl;obtain⟨X,hX⟩:∃ X,X=oG s t:=⟨_,rfl⟩;rw [<- hX] at hT hx;have HX:=hid hX;clear hX h8;by_cases g0:X=[40]
  ·rw [Bb g0] at hT;subst hT
   go_in
   exact zbt
  rw [Bc g0] at hT;have d0:(X==[40])=false:=by simpa using g0
  clear g0;by_cases g1:X=[91]
  ·rw [Bb g1] at hT;subst hT
   go_in
   exact zbt
  rw [Bc g1] at hT;have d1:(X==[91])=false:=by simpa using g1
  clear g1;by_cases g2:X=[123]
  ·rw [Bb g2] at hT;subst hT
   go_in
   exact zbt
  rw [Bc g2] at hT;have d2:(X==[123])=false:=by simpa using g2
  clear g2;by_cases g3:X=[41]
  ·rw [Bb g3] at hT;subst hT
   go_in
   exact zbt
  rw [Bc g3] at hT;have d3:(X==[41])=false:=by simpa using g3
  clear g3;by_cases g4:X=[93]
  ·rw [Bb g4] at hT;subst hT
   go_in
   exact zbt
  rw [Bc g4] at hT;have d4:(X==[93])=false:=by simpa using g4
  clear g4;by_cases g5:X=[125]
  ·rw [Bb g5] at hT;subst hT
   go_in
   exact zbt
  rw [Bc g5] at hT;have d5:(X==[125])=false:=by simpa using g5
  clear g5;subst hT
  go_in
  exact zbt
 ·rw [Bc h8] at hT;subst hT;have d8:((t.kind.toNat:Int) != 8)=true:=by
   rw [bne_iff_ne];intro e;exact h8 (UInt8.toNat.inj (show t.kind.toNat=8 by omega))
  go_in
  exact zbt
def QX6 (s:List UInt8) (t:Tk):List UInt8:=if t.kind=9 then [59] else oG s t
end Ck
namespace Ck
open Go.RowKit
variable {w w':World}
theorem wX2 (k:UInt8) (X:List UInt8):Calls Tryz.prog 83 #[.int .u8 (k.toNat:Int),.string ⟨X.toArray⟩] w fun e w'=>e=.returned (.bool (vP k X))/\Below w.heap.size w w':=by
 obtain⟨T,hT⟩:∃ T,T=vP k X:=⟨_,rfl⟩;rw [<- hT];have hku:=k.toNat_lt;have key:∀ n:Nat,n < 256->(k=UInt8.ofNat n↔(k.toNat:Int)=(n:Int)):=fun n h=>⟨fun e=>Jn,fun e=>UInt8.toNat.inj (by rw [UInt8.toNat_ofNat_of_lt' h];omega)⟩
 by_cases hA:k=1∨k=3∨k=4∨k=5∨k=6∨k=7
 ·have hTt:T=true:=by rw [hT];unfold vP;rw [Bb hA]
  rw [hTt];have hq:((k.toNat:Int)==1)=true∨(((k.toNat:Int)==1)=false/\3<=(k.toNat:Int)/\(k.toNat:Int)<=7):=by
   rcases hA with e|e|e|e|e|e
   ·left;rw [e];rfl
   all_goals (right;rw [e];decide)
  clear hT hTt hA key hku;rcases hq with h1|⟨h1,h2,h3⟩
  all_goals
   go_in
   go_wp2_with fail;go_ret;exact⟨rfl,N' _ _⟩
 ·have e1:((k.toNat:Int)==1)=false:=by
   rw [Bi];intro e;exact hA (.inl ((key 1 Cs).2 e))
  have hr:¬ 3<=(k.toNat:Int)∨¬ (k.toNat:Int)<=7:=by
   by_cases a:3<=(k.toNat:Int)
   ·by_cases b:(k.toNat:Int)<=7
    ·exfalso
     have:(k.toNat:Int)=3∨(k.toNat:Int)=4∨(k.toNat:Int)=5∨(k.toNat:Int)=6∨(k.toNat:Int)=7:=Cs
     rcases this with e|e|e|e|e
     ·exact hA (.inr (.inl ((key 3 Cs).2 e)))
     ·exact hA (.inr (.inr (.inl ((key 4 Cs).2 e))))
     ·exact hA (.inr (.inr (.inr (.inl ((key 5 Cs).2 e)))))
     ·exact hA (.inr (.inr (.inr (.inr (.inl ((key 6 Cs).2 e))))))
     ·exact hA (.inr (.inr (.inr (.inr (.inr ((key 7 Cs).2 e))))))
    ·exact .inr b
   ·exact .inl a
  by_cases hk:k=2
  ·have e2:(k.toNat:Int)=2:=by rw [hk];rfl
   have d1:((k.toNat:Int)==2)=true:=Ks
   have d2:((k.toNat:Int)==8)=false:=Ks
   have d3:¬ 3<=(k.toNat:Int):=Cs
   clear hr hA key e2;obtain⟨Lw,hLw⟩:∃ Lw:List (List UInt8),Lw=[[98,114,101,97,107],[99,111,110,116,105,110,117,101],[102,97,108,108,116,104,114,111,117,103,104],[114,101,116,117,114,110]]:=⟨_,rfl⟩;have HLn:=hid (show Lw.length=4 from Lg);have HT:=hid (show Lw.contains X=T from by
    rw [hT,hLw];unfold vP;rw [Bc Ja]
    first|rw [Bc (show ¬ k=2 from Ja),Bb hk]|rw [Bb hk]
    simp only [List.contains_cons,List.contains_nil,Bool.or_false,Bool.or_assoc])
   have HS:=hid (show MQ4 Lw=[.string ⟨[98,114,101,97,107].toArray⟩,.string ⟨[99,111,110,116,105,110,117,101].toArray⟩,.string ⟨[102,97,108,108,116,104,114,111,117,103,104].toArray⟩,.string ⟨[114,101,116,117,114,110].toArray⟩] from Lg);have HC:=hid (DQ8 w Lw 9);have hb:=(N' w.heap.size w).alloc (C' _) (Obj.cells (MQ4 Lw).toArray 9);rw [HS.out] at hb HC;clear hT hLw hk HS
   go_in
   go_wp2_with fail;have HW:=hid hb;clear hb
   try simp only [] at HC
   go_loopw [6] (fun u wr=>∃ i:Nat,i<=4/\u=i8 (i:Int)/\wr=w.alloc (.cells #[.string ⟨#[98,114,101,97,107]⟩,.string ⟨#[99,111,110,116,105,110,117,101]⟩,.string ⟨#[102,97,108,108,116,104,114,111,117,103,104]⟩,.string ⟨#[114,101,116,117,114,110]⟩] 9)/\(Lw.drop i).contains X=T) (fun u _=>4 - (intOf u).toNat)
   case atStart=>exact⟨0,Cs,rfl,rfl,HT.out⟩
   case round =>
    obtain⟨i,hi,rfl,rfl,he⟩:=hrel;have HE:=hid he;clear he;by_cases hlt:i < 4
    ·have hp:Lw[i]?=some (Lw[i]' Ig):=O' _;have c0:=HC.out i _ hp;have HD:=hid (RQ6 (s:=X) hp);generalize Lw[i]' Ig=p at *;clear hp;have i0:(0:Int)<=(i:Int):=by omega
     have i1:(i:Int) < 4:=Cs
     exact zbo
    ·have hie:i=4:=by omega
     have hTf:T=false:=Fq
     rw [hTf];have i1:¬ (i:Int) < 4:=Cs
     exact zeq
  ·by_cases hk:k=8
   ·rename_i hk2;have d1:((k.toNat:Int)==2)=false:=by rw [hk];rfl
    have d2:((k.toNat:Int)==8)=true:=Ks
    have d3:¬ (k.toNat:Int)<=7:=Ja
    clear hr hA key hk2;obtain⟨Lw,hLw⟩:∃ Lw:List (List UInt8),Lw=[[43,43],[45,45],[41],[93],[125]]:=⟨_,rfl⟩;have HLn:=hid (show Lw.length=5 from Lg);have HT:=hid (show Lw.contains X=T from by
     rw [hT,hLw];unfold vP;rw [Bc Ja]
     first|rw [Bc (show ¬ k=2 from Ja),Bb hk]|rw [Bb hk]
     simp only [List.contains_cons,List.contains_nil,Bool.or_false,Bool.or_assoc])
    have HS:=hid (show MQ4 Lw=[.string ⟨[43,43].toArray⟩,.string ⟨[45,45].toArray⟩,.string ⟨[41].toArray⟩,.string ⟨[93].toArray⟩,.string ⟨[125].toArray⟩] from Lg);have HC:=hid (DQ8 w Lw 9);have hb:=(N' w.heap.size w).alloc (C' _) (Obj.cells (MQ4 Lw).toArray 9);rw [HS.out] at hb HC;clear hT hLw hk HS
    go_in
    go_wp2_with fail;have HW:=hid hb;clear hb
    try simp only [] at HC
    go_loopw [6] (fun u wr=>∃ i:Nat,i<=5/\u=i8 (i:Int)/\wr=w.alloc (.cells #[.string ⟨#[43,43]⟩,.string ⟨#[45,45]⟩,.string ⟨#[41]⟩,.string ⟨#[93]⟩,.string ⟨#[125]⟩] 9)/\(Lw.drop i).contains X=T) (fun u _=>5 - (intOf u).toNat)
    case atStart=>exact⟨0,Cs,rfl,rfl,HT.out⟩
    case round =>
     obtain⟨i,hi,rfl,rfl,he⟩:=hrel;have HE:=hid he;clear he;by_cases hlt:i < 5
     ·have hp:Lw[i]?=some (Lw[i]' Ig):=O' _;have c0:=HC.out i _ hp;have HD:=hid (RQ6 (s:=X) hp);generalize Lw[i]' Ig=p at *;clear hp;have i0:(0:Int)<=(i:Int):=by omega
      have i1:(i:Int) < 5:=Cs
      exact zbo
     ·have hie:i=5:=by omega
      have hTf:T=false:=Fq
      rw [hTf];have i1:¬ (i:Int) < 5:=Cs
      exact zeq
   ·rename_i hk2;have d1:((k.toNat:Int)==2)=false:=by
     rw [Bi];intro e;exact hk2 ((key 2 Cs).2 e)
    have d2:((k.toNat:Int)==8)=false:=by
     rw [Bi];intro e;exact hk ((key 8 Cs).2 e)
    have hTf:T=false:=by rw [hT];unfold vP;rw [Bc hA,Bc hk2,Bc hk]
    rw [hTf];clear hT hTf hA hk hk2 key;rcases hr with h1|h1
    all_goals
     go_in
     go_wp2_with fail
     all_goals
      refine wp_loop_rounds 1 ?_;rw [rounds_succ];go_wp2_with fail;go_ret;exact⟨rfl,N' _ _⟩
end Ck
namespace Ck
open Go.RowKit
variable {w w':World}
def LX8 (w:World) (b o:Nat) (l:List Tk):Prop:=∀ j t,l[j]?=some t->w.cell? ⟨b,o+j*3,none⟩=some (.int .u8 (t.kind.toNat:Int))/\w.cell? ⟨b,o+j*3+1,none⟩=some (i8 (t.fr:Int))/\w.cell? ⟨b,o+j*3+2,none⟩=some (i8 (t.to:Int))
theorem lX7 {s:List UInt8}{t:Tk} (j:Nat) (h:j < t.to - t.fr):(oG s t)[j]?=s[t.fr+j]?:=by
 unfold oG;rw [List.getElem?_take_of_lt h,List.getElem?_drop]
theorem CX9 {s:List UInt8}{t:Tk}{q:Nat} (h1:t.fr<=q) (h2:q < t.to) (h:s[q]?=some 10):nlB (oG s t)=true:=by
 unfold nlB;rw [Bq];have hge:=Lib.indexByte_ge (oG s t) 10;by_cases hn:Lib.indexByte (oG s t) 10=-1
 ·exact absurd (by rw [lX7 (q - t.fr) Cs,show t.fr+(q - t.fr)=q by omega];exact h) (Lib.indexByte_none hn (q - t.fr))
 ·omega
theorem WX9 {s:List UInt8}{t:Tk} (h:∀ j,t.fr<=j->j < t.to->s[j]?≠some 10):nlB (oG s t)=false:=by
 unfold nlB;rw [decide_eq_false_iff_not];intro h0;obtain⟨o,ho⟩:=Ad h0;have ha:=(Lib.indexByte_some ho).1;have hl:o < t.to - t.fr:=by
  have:=(Al.1 ha).1;unfold oG at this;rw [List.length_take] at this;omega
 rw [lX7 o hl] at ha;exact h (t.fr+o) Cs Cs ha
theorem bX3 (s:List UInt8) (l:List Tk) (i b o cap:Nat) (hT:LX8 w b o l) (hok:∀ t∈l,t.fr<=t.to/\t.to<=s.length) (hs:s.length<=1125899906842624) (hl:l.length<=1099511627776) (hi:i < l.length) :
  Calls Tryz.prog 84 #[.string ⟨s.toArray⟩,.slice (some (y8 b o)) l.length cap,i8 (i:Int)] w fun e w'=>e=.returned (.bool (IX0 s (l.drop (i+1))))/\w'=w:=by
 obtain⟨T,hTT⟩:∃ T,T=IX0 s (l.drop (i+1)):=⟨_,rfl⟩;rw [<- hTT];have HTT:=hid hTT;have HC:=hid hT;have HO:=hid hok;obtain⟨n,hn⟩:∃ n,n=l.length:=⟨_,rfl⟩;rw [<- hn] at hl hi ⊢;have HN:=hid hn;clear hTT hT hok hn
 go_in
 go_wp2_with fail
 go_loop [7] (fun u=>∃ k:Nat,u=i8 (k:Int)/\k<=n/\IX0 s (l.drop k)=T) (fun u=>n - (intOf u).toNat)
 case atStart=>exact⟨i+1,Eh,Cs,HTT.out.symm⟩
 case round =>
  obtain⟨k,rfl,hk,he⟩:=hrel;have HE:=hid he;clear he hi;by_cases hlt:k < n
  ·obtain⟨t,ht⟩:∃ t,l[k]?=some t:=⟨_,O' Dz⟩;obtain⟨c0,c1,c2⟩:=HC.out k t ht;obtain⟨o1,o2⟩:=HO.out t (List.mem_of_getElem? ht);have hdr:l.drop k=t::l.drop (k+1):=by
    exact zb7
   have HD:=hid (show (if kJ t.kind then (if nlB (oG s t) then true else IX0 s (l.drop (k+1))) else false)=T from by rw [<- HE.out,hdr];rfl);have i0:(0:Int)<=(k:Int):=Cs
   have i1:(k:Int) < (n:Int):=Cs
   clear hdr ht;go_wp2_with fail;refine (CX2 t.kind).mono ?_;rintro e w2 ⟨rfl,rfl⟩;cases hq:kJ t.kind with
   | false =>
    have HF:=hid (show T=false from by rw [<- HD.out,hq];rfl);clear hq;exact zda
   | true =>
    have HD2:=hid (show (if nlB (oG s t) then true else IX0 s (l.drop (k+1)))=T from by rw [<- HD.out,hq];rfl);clear hq;go_wp2_with fail
    go_loop [8] (fun u=>∃ q:Nat,u=i8 (q:Int)/\t.fr<=q/\q<=t.to/\∀ j,t.fr<=j->j < q->s[j]?≠some 10) (fun u=>t.to - (intOf u).toNat)
    case atStart=>exact⟨t.fr,rfl,C' _,o1,fun j h1 h2=>absurd h2 Cs⟩
    case round =>
     obtain⟨q,rfl,hq1,hq2,hno⟩:=hrel;have HQ:=hid hno;clear hno;by_cases hqt:q < t.to
     ·obtain⟨x,hx⟩:∃ x,s[q]?=some x:=⟨_,O' Cs⟩;have j0:(0:Int)<=(q:Int):=by omega
      have j1:(q:Int) < (t.to:Int):=Cs
      have j2:(q:Int) < (s.length:Int):=Cs
      have hxg:s[q]?.getD 0=x:=by rw [hx];rfl
      have hxs:s[q]' Cs=x:=by have:=(Al.1 hx).2;exact this
      have HX:=hid hx;by_cases hx10:x=10
      ·have HF:=hid (show T=true from by rw [<- HD2.out,CX9 hq1 hqt (by rw [hx,hx10])];rfl);have d:((x.toNat:Int)==10)=true:=by rw [hx10];rfl
       clear hx hx10;exact zda
      ·have d:((x.toNat:Int)==10)=false:=by
        rw [Bi];intro e;exact hx10 (UInt8.toNat.inj (show x.toNat=10 by omega))
       have HX10:=hid hx10;clear hx hx10;go_wp2_with fail
       go_round
       case rel=>exact⟨q+1,Eh,Cs,Cs,fun j h1 h2=>by
        by_cases he:j=q
        ·rw [he,HX.out];intro e;exact HX10.out (Option.some.inj e)
        ·exact HQ.out j h1 Cs⟩
       case measure=>simp [intOf];omega
     ·have hqe:q=t.to:=by omega
      have j1:¬ (q:Int) < (t.to:Int):=Cs
      have HF:=hid (show IX0 s (l.drop (k+1))=T from by
       have h:=HD2.out;rw [WX9 (fun j h1 h2=>HQ.out j h1 Cs)] at h;exact h)
      clear hqe;go_wp2_with fail
      go_round
      case rel=>exact⟨k+1,Eh,Cs,HF.out⟩
      case measure=>simp [intOf];omega
  ·have hke:k=n:=by omega
   have HF:=hid (show T=true from by rw [<- HE.out,hke,HN.out,List.drop_length];rfl);clear hke;have i1:¬ (k:Int) < (n:Int):=Cs
   exact zda
end Ck
namespace Rf
open Go.RowKit
theorem jX0 {E:Ev}{c:Nat}{D0:Nat->Prop}{w w':World}{F:Tr × St}{e:Ending} (h:Ans E c (fun _=>False) w F e w'):Ans E c D0 w F e w':=by
 obtain⟨ka,cap,he,hp,hk,hf⟩:=h;exact⟨ka,cap,he,hp,hk.kept (fun _ _=>rfl) (fun b hb=>⟨.inr (hb.1.resolve_left id),hb.2⟩),hf⟩
theorem pX3 (E:Ev):∀ k,k<=100000000000->Dr E (oX0 E.toEnv k)
 | 0,_=>⟨fun _ _ _ _ _ _ _ _ _ _ _ hF=>by cases hF⟩
 | k+1,hk=>by
  have HD:=hid (pX3 E k Cs);refine⟨fun f c s w F D0 ka cap h hd hkk hF=>?_⟩;cases f with
  | file=>exact (wT HD h hk hF).mono fun _ _ h=>jX0 h
  | group=>exact (OQ HD h hk hF).mono fun _ _ h=>jX0 h
  | spec w1=>exact (kX6 HD h w1 hF).mono fun _ _ h=>jX0 h
  | fn=>exact (YW HD h hF).mono fun _ _ h=>jX0 h
  | signature=>exact (mM HD h hF).mono fun _ _ h=>jX0 h
  | params=>exact (WP HD h hk hF).mono fun _ _ h=>jX0 h
  | param=>exact (wR HD h hF).mono fun _ _ h=>jX0 h
  | tparams=>exact (iO HD h hk hF).mono fun _ _ h=>jX0 h
  | names=>exact (ZG HD h hk hF).mono fun _ _ h=>jX0 h
  | union=>exact (GQ HD h hk hF).mono fun _ _ h=>jX0 h
  | typ=>exact (uV HD h hF).mono fun _ _ h=>jX0 h
  | bracketed fr=>exact (sX3 HD h fr hF).mono fun _ _ h=>jX0 h
  | members w1=>exact (qX4 HD h w1 hk hF).mono fun _ _ h=>jX0 h
  | named=>exact (pX5 HD h hk hF).mono fun _ _ h=>jX0 h
  | field=>exact (mQ HD h hF).mono fun _ _ h=>jX0 h
  | elem=>exact (bT HD h hF).mono fun _ _ h=>jX0 h
  | exprs b=>exact (AQ HD h b hk hF).mono fun _ _ h=>jX0 h
  | expr b=>exact (XS HD h b hk hF).mono fun _ _ h=>jX0 h
  | unary b=>exact (qQ HD h b hF).mono fun _ _ h=>jX0 h
  | operand=>exact (kO HD h hF).mono fun _ _ h=>jX0 h
  | primary b=>exact (NN HD h b hk hF).mono fun _ _ h=>jX0 h
  | elements=>exact (EM HD h hk hF).mono fun _ _ h=>jX0 h
  | value=>exact (NR HD h hF).mono fun _ _ h=>jX0 h
  | stmts=>exact (WQ HD h hk hF).mono fun _ _ h=>jX0 h
  | block=>exact (tR HD h hF).mono fun _ _ h=>jX0 h
  | stmt=>exact (YS HD h hF).mono fun _ _ h=>jX0 h
  | simple b=>exact (dQ HD h b hF).mono fun _ _ h=>jX0 h
  | ifs=>exact (EV HD h hF).mono fun _ _ h=>jX0 h
  | switches=>exact (FM HD h hF).mono fun _ _ h=>jX0 h
  | clauses n=>exact (ZN HD h n hk hF).mono fun _ _ h=>jX0 h
  | cased n=>exact (vX5 HD h n hk hF).mono fun _ _ h=>jX0 h
  | selects=>exact (jO HD h hF).mono fun _ _ h=>jX0 h
  | fors=>exact (jT HD h hF).mono fun _ _ h=>jX0 h
  | dotted x fr=>exact bX5 HD h x ka cap fr hd hkk hF
  | call x fr=>exact aU HD h x ka cap fr hk hd hkk hF
  | indexed x fr=>exact lX4 HD h x ka cap fr hk hd hkk hF
  | rest l fr b=>exact PT HD h l ka cap fr b hd hkk hF
end Rf
namespace Rf
open Go.RowKit
theorem QX7 {w:World}{D:Nat->Prop}{b:Nat}:∀ (ks:List Tr) (o j:Nat) (t:Tr),LG w D b o ks->ks[j]?=some t->∃ ka cap,w.cell? ⟨b,o+j*5,none⟩=some (.int .u8 (t.kind.toNat:Int))/\w.cell? ⟨b,o+j*5+1,none⟩=some (i8 t.word)/\w.cell? ⟨b,o+j*5+2,none⟩=some (i8 (t.fr:Int))/\w.cell? ⟨b,o+j*5+3,none⟩=some (i8 (t.to:Int))/\w.cell? ⟨b,o+j*5+4,none⟩=some (.slice ka t.kids.length cap)/\eX0 w D ka t.kids
 | [],_,_,_,_,h=>Dd
 | u::r,o,0,t,⟨h1,_⟩,h=>by
  simp at h;subst h;obtain⟨k,wd,f,e,ks⟩:=u;obtain⟨ka,cap,e0,e1,e2,e3,e4,e5⟩:=h1;exact⟨ka,cap,by rw [Nat.zero_mul,Nat.add_zero];exact e0,by rw [Nat.zero_mul,Nat.add_zero];exact e1,by rw [Nat.zero_mul,Nat.add_zero];exact e2,by rw [Nat.zero_mul,Nat.add_zero];exact e3,by rw [Nat.zero_mul,Nat.add_zero];exact e4,e5⟩
 | u::r,o,j+1,t,⟨_,h2⟩,h=>by
  have:=QX7 r (o+5) j t h2 Dp;rw [show o+(j+1)*5=o+5+j*5 by omega];exact this
theorem jX7:(Tryz.prog.info? 65).map (fun i=>(i.zero,i.size,i.bytes))=some (some (.agg #[.int .u8 0,i8 0,i8 0,i8 0,i8 0]),5,40):=Cw
theorem qZ0 {i n:Nat}{z:Int} (h:z=(i:Int)+1) (hlt:i < n):n - (intOf (i8 z)).toNat < n - (intOf (i8 (i:Int))).toNat:=by
 subst h;simp only [intOf];omega
theorem hX8 (l:List Nd5):∀ u∈tV l,u.oneCell'=true:=by
 intro u hu;unfold tV at hu;obtain⟨x,_,hx⟩:=List.mem_flatMap.1 hu;simp only [OY,List.mem_cons,List.not_mem_nil,or_false] at hx;rcases hx with rfl|rfl|rfl|rfl|rfl <;> rfl
theorem sX4 (l:List Nd5):(tV l).length=l.length*5:=by
 induction l with
 | nil=>rfl
 | cons x r ih=>simp only [tV,List.flatMap_cons,V',Ae] at ih ⊢;rw [ih];simp [OY];omega
theorem zX8 (a b:List Nd5):tV (a++b)=tV a++tV b:=by simp [tV]
theorem PX3:∀ (n:Nat) (t:Tr),cnt t<=n->n<=1000000000000->∀ (w:World) (D:Nat->Prop) (ka:Option Addr) (cap:Nat),eX0 w D ka t.kids->(∀ b,D b->b < w.heap.size) ->
  Calls Tryz.prog 25 #[tv t ka cap] w fun e w'=>∃ v,e=.returned v/\w'.ownsRow w.heap.size 65 5 v (nodes t).length (tV (nodes t))/\Below w.heap.size w w'
 | 0,t,h,_,_,_,_,_,_,_=>absurd (YR t) Cs
 | n+1,.mk k wd f e ks,h,hn,w,D,ka,cap,hk,hD=>by
  have HI:=hid (PX3 n);obtain⟨iN,hiN,hz0,hz1,hz2⟩:=info_parts jX7;have hcl:EB ks<=n:=by simp only [cnt] at h;omega
  have HK:=hid hk;have HDD:=hid hD;have HCL:=hid hcl;have HIN:=hid (Az hiN (Az hz0 (Az hz1 hz2)));have hx:=B8 w (Obj.cells #[.int .u8 (k.toNat:Int),i8 wd,i8 (f:Int),i8 (e:Int),.slice ka ks.length cap] 60);have hv:=pX0 hx;simp only [bX0] at hv;have hX:=hid hx;clear hk hD h hcl hx hiN hz0 hz1 hz2;simp only [tv,Tr.kind,Tr.word,Tr.fr,Tr.to,Tr.kids]
  go_in
  go_wp2_with fail;have hB2:Below w.heap.size w ((w.alloc (Obj.cells #[.int .u8 (k.toNat:Int),i8 wd,i8 (f:Int),i8 (e:Int),.slice ka ks.length cap] 60)).alloc (Obj.cells #[.int .u8 (k.toNat:Int),i8 (ks.length:Int),i8 wd,i8 (f:Int),i8 (e:Int)] 65)):=((N' _ _).alloc (C' _) _).alloc Cu _;have hx2:=B8 (w.alloc (Obj.cells #[.int .u8 (k.toNat:Int),i8 wd,i8 (f:Int),i8 (e:Int),.slice ka ks.length cap] 60)) (Obj.cells #[.int .u8 (k.toNat:Int),i8 (ks.length:Int),i8 wd,i8 (f:Int),i8 (e:Int)] 65);have hx1:=(((N' (w.alloc (Obj.cells #[.int .u8 (k.toNat:Int),i8 wd,i8 (f:Int),i8 (e:Int),.slice ka ks.length cap] 60)).heap.size _).alloc (C' _) (Obj.cells #[.int .u8 (k.toNat:Int),i8 (ks.length:Int),i8 wd,i8 (f:Int),i8 (e:Int)] 65)).block w.heap.size Cu).trans hX.out;rw [World.size_alloc] at hx2;generalize ((w.alloc (Obj.cells #[.int .u8 (k.toNat:Int),i8 wd,i8 (f:Int),i8 (e:Int),.slice ka ks.length cap] 60)).alloc (Obj.cells #[.int .u8 (k.toNat:Int),i8 (ks.length:Int),i8 wd,i8 (f:Int),i8 (e:Int)] 65))=w1 at *;have HS:=hid (Az hB2 (Az hx1 hx2));clear hB2 hx1 hx2 hv
  go_loopw [3,4] (fun v u wr=>∃ i:Nat,u=i8 (i:Int)/\i<=ks.length/\Below w.heap.size w wr/\wr.heap[w.heap.size]?=some (.cells #[.int .u8 (k.toNat:Int),i8 wd,i8 (f:Int),i8 (e:Int),.slice ka ks.length cap] 60 (0,0))/\v.ownBlock≠some w.heap.size/\wr.ownsRow w.heap.size 65 5 v (⟨k,ks.length,wd,f,e⟩::mG (ks.take i):List Nd5).length (tV (⟨k,ks.length,wd,f,e⟩::mG (ks.take i)))) (fun _ u _=>ks.length - (intOf u).toNat)
  case atStart =>
   refine⟨0,rfl,Cs,HS.out.1,HS.out.2.1,Dl,?_⟩;refine⟨by simp [sX4],.inr ⟨w.heap.size+1,1,#[.int .u8 (k.toNat:Int),i8 (ks.length:Int),i8 wd,i8 (f:Int),i8 (e:Int)],rfl,Cs,HS.out.2.2,by simp [mG],Da,rfl,rfl⟩⟩
  case round =>
   obtain⟨i,rfl,hi,hbw,hbox,hne,hown⟩:=hrel;have hv:=pX0 hbox;simp only [bX0] at hv;have HB:=hid (Az hbw (Az hbox (Az hne hown)));clear hbw hbox hne hown HS;by_cases hlt:i < ks.length
   ·obtain⟨x,hx⟩:∃ x,ks[i]?=some x:=⟨_,O' hlt⟩;have HX:=hid hx;have hkn:ks≠[]:=fun e=>by rw [e] at hlt;simp at hlt
    obtain⟨b,o,rfl,hb,hr⟩:=HK.out.resolve_left hkn;obtain⟨kx,cx,e0,e1,e2,e3,e4,e5⟩:=QX7 ks o i x hr hx;have hbl:=HDD.out b hb;have HKX:=hid (e5.kept (w':=wr) (D':=D) (fun b hb=>HB.out.1.block b (HDD.out b hb)) (fun _ h=>h));replace e0:=aA HB.out.1 e0;replace e1:=aA HB.out.1 e1;replace e2:=aA HB.out.1 e2;replace e3:=aA HB.out.1 e3;replace e4:=aA HB.out.1 e4;have i0:(0:Int)<=(i:Int):=Cs
    have i1:(i:Int) < (ks.length:Int):=Cs
    clear hx hkn hr e5 hb;go_wp2_with fail;have hb3:=BQ HX.out;have hcp:=YR x;have hkz:=sN x;refine (HI.out x (by have:=HCL.out;omega) Cs wr D kx cx HKX.out (fun b hb=>Aj (HDD.out b hb) HB.out.1.size)).mono ?_;rintro e' w2 ⟨v2,rfl,hown2,hb2⟩;have HB2:=hid hb2;have HO2:=hid (qD HB.out.2.2.2 (Fr.below (X:=[]) hb2) Cu);have hwz:=HB.out.1.size;have hw2:=hb2.size;rcases hown2.2 with ⟨_,h0⟩|⟨g,cp,cur,rfl,hg1,hg2,_⟩
    ·omega
    have HN:=hid (show ∀ j u,(tV (nodes x))[j]?=some u->w2.cell? (((y8 g 0):Addr).add j)=some u from fun j u hj=>by
     have hl:j < (nodes x).length*5:=by rw [<- sX4];exact (Al.1 hj).1
     have:=World.ownsRow.cellAt hown2 j hl;rw [hj] at this;have he:(((y8 g 0):Addr).add j)=(y8 g j):=by
      exact zer
     rw [he,this])
    have hm:(⟨k,ks.length,wd,f,e⟩::mG (ks.take i):List Nd5).length=EB (ks.take i)+1:=by rw [Ae,pQ]
    have HM:=hid (show (⟨k,ks.length,wd,f,e⟩::mG (ks.take i):List Nd5).length+(nodes x).length<=1000000000001 from by have:=HCL.out;rw [hm,hkz];omega);have HG:=hid hg1;clear hown2 hb2 hb3 hcp hkz hm hg2 hwz hw2 hg1 e0 e1 e2 e3 e4 hv;obtain⟨iN2,hiN,hz0,hz1,hz2⟩:=info_parts jX7;have HIN2:=hid (Az hiN (Az hz0 (Az hz1 hz2)));clear hiN hz0 hz1 hz2;go_wp2_with (at_builtin;refine wpList_append_own_at _ rfl _ _ 35 rfl w.heap.size 65 iN2 _ 5 40 Tryz.underlying35 HIN2.out.1 HIN2.out.2.1 HIN2.out.2.2.1 HIN2.out.2.2.2 rfl Ct u3 (⟨k,ks.length,wd,f,e⟩::mG (ks.take i):List Nd5).length _ rfl HO2.out (y8 g 0) (nodes x).length cp (tV (nodes x)) rfl (sX4 _) HN.out (hX8 _) (by have:=HM.out;unfold maxLen;omega) (by have:=HM.out;omega) (by have:=HB.out.1.size;have:=HB2.out.size;omega) ?_;intro v' w3 hown3 hgrow hnil hat);have hX:Fr (YD u3) w2 w3:=Fr.grown hgrow (fun k hk=>Gl);have hXm:∀ q∈YD u3,u3.ownBlock=some q/\w.heap.size<=q:=by
     intro q hq;unfold YD at hq;split at hq
     ·rename_i q2 hq2;simp at hq;subst hq;exact⟨hq2,(HB.out.2.2.2.lt _ hq2).1⟩
     ·simp at hq
    have hkl:ks.length<=n:=by have:=HCL.out;have:=fS ks;omega
    have hs1:=HB.out.1.size;have hs2:=HB2.out.size;have hbx:=KX0 HB.out.2.1;have hb02:=dA HB.out.1 HB2.out;have hrow:tV (⟨k,ks.length,wd,f,e⟩::mG (ks.take (i+1)))=tV (⟨k,ks.length,wd,f,e⟩::mG (ks.take i))++tV (nodes x):=by
     rw [fN HX.out,tM,<- zX8];simp [mG]
    have hlen:(⟨k,ks.length,wd,f,e⟩::mG (ks.take (i+1)):List Nd5).length=(⟨k,ks.length,wd,f,e⟩::mG (ks.take i):List Nd5).length+(nodes x).length:=by
     rw [fN HX.out,tM];simp [mG];omega
    have HWR:Hid (wrap64 ((i:Int)+1)=(i:Int)+1):=hid (IntWalk.wrap64_in ((i:Int)+1) ⟨Cs,Cs⟩);go_roundw
    case rel =>
     refine⟨i+1,congrArg (Value.int .i64) HWR.out,Cs,⟨hX.os.trans hb02.os,hX.tape.trans hb02.tape,hX.output.trans hb02.output,An hb02.size hX.size,fun q hq=>?_⟩,?_,?_,?_⟩
     ·rw [hX.block q Cs (fun m=>by have:=(hXm q m).2;omega)];exact hb02.block q hq
     ·rw [hX.block _ Cs (fun m=>HB.out.2.2.1 (hXm _ m).1),HB2.out.block _ Cs];exact HB.out.2.1
     ·rcases hat with h|h
      ·rw [h];exact HB.out.2.2.1
      ·rw [h];intro e;injection e with e;omega
     ·rw [hrow,hlen];exact hown3
    case measure=>exact qZ0 HWR.out hlt
   ·have hie:i=ks.length:=by omega
    have i1:¬ (i:Int) < (ks.length:Int):=Cs
    have HE:=hid hie;clear hie;go_wp2_with fail;go_ret;exact⟨_,rfl,by have:=HB.out.2.2.2;rw [HE.out,List.take_length] at this;exact this,HB.out.1⟩
end Rf
namespace Ck
open Go.RowKit
variable {w:World}
theorem zE {b:Nat}{w w':World}{p:Addr}{v:Value} (hb:Below b w w') (hp:p.block < b) (h:w.cell? p=some v):w'.cell? p=some v:=by rw [hb.cell hp];exact h
def same7At (w:World) (a:Option Addr) (l:List Tk):Prop :=
 l=[]∨∃ b off,a=some (y8 b off)/\b < w.heap.size/\∀ j p,l[j]?=some p->w.cell? ⟨b,off+j*3,none⟩=some (.int .u8 (p.kind.toNat:Int))/\w.cell? ⟨b,off+j*3+1,none⟩=some (i8 (p.fr:Int))/\w.cell? ⟨b,off+j*3+2,none⟩=some (i8 (p.to:Int))
theorem xX7 (x o y u c1 c2:Nat) (a:List Tk) (hl:a.length<=1099511627776) (hx:x < w.heap.size) (hy:y < w.heap.size)
  (ha:∀ j p,a[j]?=some p->w.cell? ⟨x,o+j*3,none⟩=some (.int .u8 (p.kind.toNat:Int))/\w.cell? ⟨x,o+j*3+1,none⟩=some (i8 (p.fr:Int))/\w.cell? ⟨x,o+j*3+2,none⟩=some (i8 (p.to:Int)))
  (hb:∀ j p,a[j]?=some p->w.cell? ⟨y,u+j*3,none⟩=some (.int .u8 (p.kind.toNat:Int))/\w.cell? ⟨y,u+j*3+1,none⟩=some (i8 (p.fr:Int))/\w.cell? ⟨y,u+j*3+2,none⟩=some (i8 (p.to:Int))) :
  Calls Tryz.prog 17 #[.slice (some (y8 x o)) a.length c1,.slice (some (y8 y u)) a.length c2] w fun e w'=>e=.returned (.bool true)/\Below w.heap.size w w':=by
 have HA:=hid (Az ha hb);clear ha hb
 go_in
 go_wp2_with fail
 go_loopw [5] (fun v w'=>∃ i:Nat,v=i8 (i:Int)/\i<=a.length/\Below w.heap.size w w') (fun v _=>((a.length:Int) - intOf v).toNat)
 case atStart=>exact⟨0,rfl,Cs,N' _ _⟩
 case round =>
  obtain⟨i,rfl,hi,hbel⟩:=hrel;by_cases hlt:i < a.length
  ·obtain⟨p0,p1,p2⟩:=HA.out.1 i a[i] (O' hlt);obtain⟨q0,q1,q2⟩:=HA.out.2 i a[i] (O' hlt);have p0:=zE hbel hx p0;have p1:=zE hbel hx p1;have p2:=zE hbel hx p2;have q0:=zE hbel hy q0;have q1:=zE hbel hy q1;have q2:=zE hbel hy q2;generalize a[i]=p at *;have i0:(0:Int)<=(i:Int):=by omega
   have i1:(i:Int) < (a.length:Int):=Cs
   obtain⟨k1,f1,e1⟩:=p;simp only [] at p0 p1 p2 q0 q1 q2;go_wp2_with fail
   go_region_held3 (fun w'=>w'.cell? ⟨x,o+i*3,none⟩=some (.int .u8 (k1.toNat:Int))/\w'.cell? ⟨x,o+i*3+1,none⟩=some (i8 (f1:Int))/\w'.cell? ⟨x,o+i*3+2,none⟩=some (i8 (e1:Int))/\w'.cell? ⟨y,u+i*3,none⟩=some (.int .u8 (k1.toNat:Int))/\w'.cell? ⟨y,u+i*3+1,none⟩=some (i8 (f1:Int))/\w'.cell? ⟨y,u+i*3+2,none⟩=some (i8 (e1:Int))) (go_keep) (first|fail)
   exact zbn
  ·exact zcg
theorem same7_walk (xa ya:Option Addr) (c1 c2:Nat) (a:List Tk) (hl:a.length<=1099511627776) (ha:same7At w xa a) (hb:same7At w ya a) :
  Calls Tryz.prog 17 #[.slice xa a.length c1,.slice ya a.length c2] w fun e w'=>e=.returned (.bool true)/\Below w.heap.size w w':=by
 rcases ha with h|⟨b,off,rfl,hlt,hc⟩
 ·subst h
  go_in
  exact za0
 ·rcases hb with h|⟨b2,off2,rfl,hlt2,hc2⟩
  ·subst h
   go_in
   exact za0
  ·exact xX7 b off b2 off2 c1 c2 a hl hlt hlt2 hc hc2
def sameNAt (w:World) (a:Option Addr) (l:List Nd5):Prop :=
 l=[]∨∃ b off,a=some (y8 b off)/\b < w.heap.size/\∀ j p,l[j]?=some p->w.cell? ⟨b,off+j*5,none⟩=some (.int .u8 (p.kind.toNat:Int))/\w.cell? ⟨b,off+j*5+1,none⟩=some (i8 (p.kids:Int))/\w.cell? ⟨b,off+j*5+2,none⟩=some (i8 p.word)/\w.cell? ⟨b,off+j*5+3,none⟩=some (i8 (p.fr:Int))/\w.cell? ⟨b,off+j*5+4,none⟩=some (i8 (p.till:Int))
theorem mX7 (x o y u c1 c2:Nat) (a:List Nd5) (hl:a.length<=1099511627776) (hx:x < w.heap.size) (hy:y < w.heap.size)
  (ha:∀ j p,a[j]?=some p->w.cell? ⟨x,o+j*5,none⟩=some (.int .u8 (p.kind.toNat:Int))/\w.cell? ⟨x,o+j*5+1,none⟩=some (i8 (p.kids:Int))/\w.cell? ⟨x,o+j*5+2,none⟩=some (i8 p.word)/\w.cell? ⟨x,o+j*5+3,none⟩=some (i8 (p.fr:Int))/\w.cell? ⟨x,o+j*5+4,none⟩=some (i8 (p.till:Int)))
  (hb:∀ j p,a[j]?=some p->w.cell? ⟨y,u+j*5,none⟩=some (.int .u8 (p.kind.toNat:Int))/\w.cell? ⟨y,u+j*5+1,none⟩=some (i8 (p.kids:Int))/\w.cell? ⟨y,u+j*5+2,none⟩=some (i8 p.word)/\w.cell? ⟨y,u+j*5+3,none⟩=some (i8 (p.fr:Int))/\w.cell? ⟨y,u+j*5+4,none⟩=some (i8 (p.till:Int))) :
  Calls Tryz.prog 18 #[.slice (some (y8 x o)) a.length c1,.slice (some (y8 y u)) a.length c2] w fun e w'=>e=.returned (.bool true)/\Below w.heap.size w w':=by
 have HA:=hid (Az ha hb);clear ha hb
 go_in
 go_wp2_with fail
 go_loopw [5] (fun v w'=>∃ i:Nat,v=i8 (i:Int)/\i<=a.length/\Below w.heap.size w w') (fun v _=>((a.length:Int) - intOf v).toNat)
 case atStart=>exact⟨0,rfl,Cs,N' _ _⟩
 case round =>
  obtain⟨i,rfl,hi,hbel⟩:=hrel;by_cases hlt:i < a.length
  ·obtain⟨p0,p1,p2,p3,p4⟩:=HA.out.1 i a[i] (O' hlt);obtain⟨q0,q1,q2,q3,q4⟩:=HA.out.2 i a[i] (O' hlt);have p0:=zE hbel hx p0;have p1:=zE hbel hx p1;have p2:=zE hbel hx p2;have p3:=zE hbel hx p3;have p4:=zE hbel hx p4;have q0:=zE hbel hy q0;have q1:=zE hbel hy q1;have q2:=zE hbel hy q2;have q3:=zE hbel hy q3;have q4:=zE hbel hy q4;generalize a[i]=p at *;have i0:(0:Int)<=(i:Int):=by omega
   have i1:(i:Int) < (a.length:Int):=Cs
   obtain⟨k1,n1,wd1,f1,e1⟩:=p;simp only [] at p0 p1 p2 p3 p4 q0 q1 q2 q3 q4;go_wp2_with fail
   go_region_held3 (fun w'=>w'.cell? ⟨x,o+i*5,none⟩=some (.int .u8 (k1.toNat:Int))/\w'.cell? ⟨x,o+i*5+1,none⟩=some (i8 (n1:Int))/\w'.cell? ⟨x,o+i*5+2,none⟩=some (i8 wd1)/\w'.cell? ⟨x,o+i*5+3,none⟩=some (i8 (f1:Int))/\w'.cell? ⟨x,o+i*5+4,none⟩=some (i8 (e1:Int))/\w'.cell? ⟨y,u+i*5,none⟩=some (.int .u8 (k1.toNat:Int))/\w'.cell? ⟨y,u+i*5+1,none⟩=some (i8 (n1:Int))/\w'.cell? ⟨y,u+i*5+2,none⟩=some (i8 wd1)/\w'.cell? ⟨y,u+i*5+3,none⟩=some (i8 (f1:Int))/\w'.cell? ⟨y,u+i*5+4,none⟩=some (i8 (e1:Int))) (go_keep) (first|fail)
   exact zbn
  ·exact zcg
theorem sameN_walk (xa ya:Option Addr) (c1 c2:Nat) (a:List Nd5) (hl:a.length<=1099511627776) (ha:sameNAt w xa a) (hb:sameNAt w ya a) :
  Calls Tryz.prog 18 #[.slice xa a.length c1,.slice ya a.length c2] w fun e w'=>e=.returned (.bool true)/\Below w.heap.size w w':=by
 rcases ha with h|⟨b,off,rfl,hlt,hc⟩
 ·subst h
  go_in
  exact za0
 ·rcases hb with h|⟨b2,off2,rfl,hlt2,hc2⟩
  ·subst h
   go_in
   exact za0
  ·exact mX7 b off b2 off2 c1 c2 a hl hlt hlt2 hc hc2
end Ck
