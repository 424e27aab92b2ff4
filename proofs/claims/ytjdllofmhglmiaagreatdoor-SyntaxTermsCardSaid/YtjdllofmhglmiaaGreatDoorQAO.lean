import Derived.Test.YtjdllofmhglmiaaGreatDoorQAG
namespace Go.Proofs.YtjdllofmhglmiaaGreatDoor
open Lib(hid)
set_option linter.all false
set_option maxHeartbeats 40000000
set_option maxRecDepth 100000
namespace Num
open Go.RowKit
def jQ9:List UInt8:=[48,49,50,51,52,53,54,55,56,57,97,98,99,100,101,102]
def upD:List UInt8:=[48,49,50,51,52,53,54,55,56,57,65,66,67,68,69,70]
theorem TQ9:∀ i:Fin 16,∀ c:Fin 256,(((jQ9[i.val]?.getD 0).toNat==c.val)||((upD[i.val]?.getD 0).toNat==c.val))=decide (val c.val=i.val):=Ef
theorem DQ9 (i:Nat) (h:i < 16) (c:UInt8):((jQ9[i]?.getD 0).toNat=c.toNat∨(upD[i]?.getD 0).toNat=c.toNat)↔val c.toNat=i:=by
  have:=TQ9 ⟨i,h⟩ ⟨c.toNat,c.toNat_lt⟩;rw [Bg,Bv,decide_eq_true_iff,Bh,Bh] at this;exact this
theorem YQ5 (c:UInt8) (base:Int) (w:World) (hb0:0<=base) (hb:base<=16) :
    Calls Tryz.prog 247 #[.int .u8 c.toNat,i8 base] w fun e w'=>e=.returned (.bool (dg base c))/\w=w':=by
  obtain⟨n,rfl⟩:=Ad hb0
  go_in
  go_wp2_with fail
  go_loop [7] (fun u=>∃ i:Nat,i<=n/\u=i8 i/\(i:Int)<=val c.toNat) (fun u=>n - (intOf u).toNat)
  case atStart=>exact⟨0,Cs,rfl,by unfold val;have:=c.toNat_lt;omega⟩
  case round =>
    obtain⟨i,hi,rfl,hv⟩:=hrel;by_cases hlt:i < n
    · have h16:(i:Int) < 16:=by omega
      have H:=DQ9 i Cs c;unfold jQ9 upD at H;have HH:=hid H;clear H;go_wp2_with fail
      · go_ret;have H:=HH.out;exact⟨TG K7,rfl⟩
      · go_ret
        have H:=HH.out;simp only [Bh] at *;exact⟨TG K7,trivial⟩
      · have H:=HH.out
        simp only [Bi] at *
        go_round
        case rel=>exact⟨i+1,Cs,Eh,Cs⟩
        case measure=>simp [intOf];omega
    · go_wp2_with fail
      go_ret;exact⟨TG K7,rfl⟩
def okR (b:Int) (l:List UInt8) (i:Nat):Bool:=(decide (bat l i=95)&&!decide (bat l (i - 1)=95))||dg b (l[i]?.getD 0)
def cK (b:Int) (l:List UInt8) (i:Nat):Bool:=(List.range' i (l.length - i)).all (okR b l)
def rowR (b:Int) (l:List UInt8):Bool :=
  decide (l≠[])&&dg b (l[0]?.getD 0)&&dg b (l[l.length - 1]?.getD 0)&&cK b l 0
theorem SQ4 (b:Int) (l:List UInt8) (i:Nat) (h:i < l.length):cK b l i=(okR b l i&&cK b l (i+1)):=by
  unfold cK;obtain⟨f,hf⟩:∃ f,l.length - i=f+1:=⟨l.length - i - 1,Cs⟩;rw [hf,List.range'_succ,List.all_cons,show l.length - (i+1)=f from Cs]
theorem CQ6 (b:Int) (l:List UInt8) (i:Nat) (h:l.length<=i):cK b l i=true:=by
  unfold cK;rw [show l.length - i=0 from Cs];rfl
theorem EQ6 (l:List UInt8) (base:Int) (w:World) (hs:l.length<=1125899906842624) (hb0:0<=base) (hb:base<=16) :
    Calls Tryz.prog 251 #[.string ⟨l.toArray⟩,i8 base] w fun e w'=>e=.returned (.bool (rowR base l))/\w=w':=by
  by_cases hl:l=[]
  · subst hl
    go_in
    go_wp2_with fail
    all_goals go_ret
    all_goals exact⟨rfl,rfl⟩
  have h0:0 < l.length:=List.length_pos_iff.2 hl;have hz:((l.length:Int)==0)=false:=Cv
  have g0:l[0]?.getD 0=l[0]:=Lk
  have G0:=hid g0;clear g0;by_cases hA1:dg base l[0]=true
  · by_cases hA2:dg base (l[l.length - 1]?.getD 0)=true
    · go_in
      go_wp2_with (first|(go_at_call 247;refine (YQ5 _ _ _ hb0 hb).mono ?_;rintro e w1 ⟨rfl,rfl⟩))
      go_loop [5] (fun u=>∃ i:Nat,i<=l.length/\u=i8 i/\cK base l i=cK base l 0) (fun u=>l.length - (intOf u).toNat)
      case atStart=>exact⟨0,Cs,rfl,rfl⟩
      case round =>
        obtain⟨i,hi,rfl,hv⟩:=hrel;have Hv:=hid hv;clear hv;by_cases hlt:i < l.length
        · have gi:l[i]?.getD 0=l[i]:=by simp [hlt]
          have Gi:=hid gi;clear gi;by_cases h95:(l[i].toNat:Int)=95
          · have h1:1<=i:=by
              rcases Nat.eq_zero_or_pos i with rfl|h
              · exfalso
                have:l[0]=95:=Ay.1 (by show _=95;omega);rw [this,GX base hb] at hA1;cases hA1
              · exact h
            have H95:=hid h95;have h95':((l[i].toNat:Int)==95)=true:=by simpa using h95
            clear h95;go_wp2_with (first|(go_at_call 247;refine (YQ5 _ _ _ hb0 hb).mono ?_;rintro e w1 ⟨rfl,rfl⟩))
            all_goals have gi:=Gi.out
            all_goals have h95:=H95.out
            all_goals first
              | (go_round
                 case rel =>
                   exact zcu
                 case measure=>simp [intOf];omega)
              | (go_ret
                 have hok:okR base l i=false:=Kt
                 exact⟨TG Ho,rfl⟩)
          · have h95':((l[i].toNat:Int)==95)=false:=by simpa using h95
            have H95:=hid h95;clear h95;go_wp2_with (first|(go_at_call 247;refine (YQ5 _ _ _ hb0 hb).mono ?_;rintro e w1 ⟨rfl,rfl⟩))
            all_goals have gi:=Gi.out
            all_goals have h95:=H95.out
            all_goals first
              | (go_round
                 case rel =>
                   exact zcu
                 case measure=>simp [intOf];omega)
              | (go_ret
                 have hok:okR base l i=false:=Kt
                 exact⟨TG Ho,rfl⟩)
        · go_wp2_with fail
          go_ret;have e1:=Hv.out;rw [CQ6 _ _ _ Cs] at e1;exact⟨TG (by rw [rowR,G0.out,hA1,hA2,<- e1];simp [hl]),rfl⟩
    · have hA2':dg base (l[l.length - 1]?.getD 0)=false:=by simpa using hA2
      clear hA2
      go_in
      go_wp2_with (first|(go_at_call 247;refine (YQ5 _ _ _ hb0 hb).mono ?_;rintro e w1 ⟨rfl,rfl⟩))
      all_goals go_ret
      all_goals exact⟨TG (by simp [rowR,hA2']),rfl⟩
  · have hA1':dg base l[0]=false:=by simpa using hA1
    clear hA1
    go_in
    go_wp2_with (first|(go_at_call 247;refine (YQ5 _ _ _ hb0 hb).mono ?_;rintro e w1 ⟨rfl,rfl⟩))
    all_goals go_ret
    all_goals exact⟨TG (by rw [rowR,G0.out];simp [hA1']),rfl⟩
end Num
namespace Num
open Go.RowKit
def underR (b:Int) (l:List UInt8):Bool:=rowR b l||(decide (1 < l.length)&&decide (bat l 0=95)&&rowR b l.tail)
theorem oQ7 (l:List UInt8) (base:Int) (w:World) (hs:l.length<=1125899906842624) (hb0:0<=base) (hb:base<=16) :
  Calls Tryz.prog 270 #[.string ⟨l.toArray⟩,i8 base] w fun e w'=>e=.returned (.bool (underR base l))/\w=w':=by
 go_in
 go_wp2_with (first|(go_at_call 251;refine (EQ6 _ _ _ Cz hb0 hb).mono ?_;rintro e w1 ⟨rfl,rfl⟩))
 all_goals go_ret
 all_goals refine⟨TG (congrArg Value.bool ?_),Df⟩
 all_goals simp only [underR,bat]
 all_goals first|(simp_all;done)|(simp_all;omega)|go_show
def tQ4 (a b:Int) (l:List UInt8):Bool:=decide (2<=l.length)&&decide (bat l 0=48)&&(decide (bat l 1=a)||decide (bat l 1=b))
theorem lQ5 (l:List UInt8) (a b:Int) (w:World) (hs:l.length<=1125899906842624) :
  Calls Tryz.prog 248 #[.string ⟨l.toArray⟩,.int .u8 a,.int .u8 b] w fun e w'=>e=.returned (.bool (tQ4 a b l))/\w=w':=by
 go_in
 go_wp2_with fail
 all_goals go_ret
 all_goals refine⟨TG (congrArg Value.bool ?_),Df⟩
 all_goals simp only [tQ4,bat]
 all_goals first|(simp_all;done)|(simp_all;omega)|(rw [Bg];simp_all;done)|(rw [Bg];simp_all;omega)
def wQ4 (a b:Int) (l:List UInt8):Bool :=
 decide (2<=l.length)&&(decide (bat l 0=a)||decide (bat l 0=b))&&(if bat l 1=43∨bat l 1=45 then rowR 10 (l.drop 2) else rowR 10 l.tail)
theorem lQ8 (l:List UInt8) (a b:Int) (w:World) (hs:l.length<=1125899906842624) :
  Calls Tryz.prog 271 #[.string ⟨l.toArray⟩,.int .u8 a,.int .u8 b] w fun e w'=>e=.returned (.bool (wQ4 a b l))/\w=w':=by
 go_in
 go_wp2_with (first|(go_at_call 251;refine (EQ6 _ _ _ Cz Cs Cs).mono ?_;rintro e w1 ⟨rfl,rfl⟩))
 all_goals go_ret
 all_goals refine⟨TG (congrArg Value.bool ?_),Df⟩
 all_goals simp only [wQ4,bat]
 all_goals first|(simp_all;done)|(simp_all;omega)|go_show
def BQ5 (l:List UInt8):Bool :=
 decide (l=[48])||(rowR 10 l&&!decide (bat l 0=48))||(decide (1 < l.length)&&decide (bat l 0=48)&&underR 8 l.tail)
 || (tQ4 98 66 l&&underR 2 (l.drop 2))||(!tQ4 98 66 l&&((tQ4 111 79 l&&underR 8 (l.drop 2))||(!tQ4 111 79 l&&tQ4 120 88 l&&underR 16 (l.drop 2))))
theorem fQ5 (b:Int) (l:List UInt8) (h:rowR b l=true):0 < l.length:=by
 cases l with
 | nil=>simp [rowR] at h
 | cons _ _=>simp
theorem KQ6 (a b:Int) (l:List UInt8) (h:tQ4 a b l=true):2<=l.length:=by
 simp [tQ4] at h;omega
theorem SQ9 (l:List UInt8) (w:World) (hs:l.length<=1125899906842624) :
  Calls Tryz.prog 249 #[.string ⟨l.toArray⟩] w fun e w'=>e=.returned (.bool (BQ5 l))/\w=w':=by
 by_cases h2:2<=l.length
 ·go_in
  go_wp2_with (first
   | (go_at_call 251;refine (EQ6 _ _ _ Cz Cs Cs).mono ?_;rintro e w1 ⟨rfl,rfl⟩)
   | (go_at_call 270;refine (oQ7 _ _ _ Cz Cs Cs).mono ?_;rintro e w1 ⟨rfl,rfl⟩)
   | (go_at_call 248;refine (lQ5 _ _ _ _ Cz).mono ?_;rintro e w1 ⟨rfl,rfl⟩))
  all_goals go_ret
  all_goals refine⟨TG (congrArg Value.bool ?_),Df⟩
  all_goals simp only [BQ5,bat]
  all_goals first|(simp_all;done)|(simp_all;omega)|(rw [Bg];simp_all;done)|(rw [Bg];simp_all;omega)|go_show
 ·have hh:∀ a b,tQ4 a b l=false:=fun a b=>by simp [tQ4];omega
  have e1:=hh 98 66;have e2:=hh 111 79;have e3:=hh 120 88;clear hh;by_cases hl:l=[]
  ·subst hl;have e0:rowR 10 []=false:=rfl
   go_in
   go_wp2_with (first
    | (go_at_call 251;refine (EQ6 [] _ _ (by (try simp)) Cs Cs).mono ?_;rintro e w1 ⟨rfl,rfl⟩)
    | (go_at_call 248;refine (lQ5 [] _ _ _ (by (try simp))).mono ?_;rintro e w1 ⟨rfl,rfl⟩))
   all_goals go_ret
   all_goals exact⟨rfl,Df⟩
  ·have h1:0 < l.length:=List.length_pos_iff.2 hl
   go_in
   go_wp2_with (first
    | (go_at_call 251;refine (EQ6 _ _ _ Cz Cs Cs).mono ?_;rintro e w1 ⟨rfl,rfl⟩)
    | (go_at_call 248;refine (lQ5 _ _ _ _ Cz).mono ?_;rintro e w1 ⟨rfl,rfl⟩))
   all_goals go_ret
   all_goals refine⟨TG (congrArg Value.bool ?_),Df⟩
   all_goals simp only [BQ5,bat]
   all_goals first|(simp_all;done)|(simp_all;omega)|(rw [Bg];simp_all;done)|(rw [Bg];simp_all;omega)|go_show
end Num
namespace Num
open Go.RowKit
def ZQ4 (b:Int) (hex:Bool) (A B:List UInt8):Bool:=((rowR b A||(hex&&underR b A))&&(decide (B=[])||rowR b B))||(decide (A=[])&&rowR b B)
def TQ5 (l:List UInt8):Nat:=oJ (fun i=>!decide (bat l i=46)) (l.length - 0) 0
def BQ4 (b:Int) (hex:Bool) (l:List UInt8):Bool:=decide (TQ5 l < l.length)&&ZQ4 b hex (l.take (TQ5 l)) (l.drop (TQ5 l+1))
theorem qQ5 (l:List UInt8) (base:Int) (hex:Bool) (w:World) (hs:l.length<=1125899906842624) (hb0:0<=base) (hb:base<=16) :
    Calls Tryz.prog 272 #[.string ⟨l.toArray⟩,i8 base,.bool hex] w fun e w'=>e=.returned (.bool (BQ4 base hex l))/\w=w':=by
  go_in
  go_wp2_with fail
  go_loop [7] (fun u=>∃ i:Nat,i<=l.length/\u=i8 i/\oJ (fun i=>!decide (bat l i=46)) (l.length - i) i=TQ5 l) (fun u=>l.length - (intOf u).toNat)
  case atStart=>exact⟨0,Cs,rfl,rfl⟩
  case round =>
    obtain⟨i,hi,rfl,hv⟩:=hrel;have Hv:=hid hv;clear hv;by_cases hlt:i < l.length
    · have gi:l[i]?.getD 0=l[i]:=by simp [hlt]
      have Gi:=hid gi;clear gi;go_wp2_with (first
        | (go_at_call 251;refine (EQ6 _ _ _ Cz hb0 hb).mono ?_;rintro e w1 ⟨rfl,rfl⟩)
        | (go_at_call 270;refine (oQ7 _ _ _ Cz hb0 hb).mono ?_;rintro e w1 ⟨rfl,rfl⟩))
      all_goals first
        | (go_round
           case rel =>
             have gi:=Gi.out;have hok:(!decide (bat l i=46))=true:=by simp_all [bat]
             exact⟨i+1,Cs,Eh,by rw [<- Hv.out,BL _ _ _ hok hlt]⟩
           case measure=>simp [intOf];omega)
        | (go_ret
           have gi:=Gi.out;have hok:(!decide (bat l i=46))=false:=by simp_all [bat]
           have hen:TQ5 l=i:=by rw [<- Hv.out,cL _ _ _ hok]
           refine⟨TG (congrArg Value.bool ?_),Df⟩;simp only [BQ4,ZQ4,hen]
           first|(simp_all;done)|(simp_all;omega)|(rw [Bg];simp_all;done)|(rw [Bg];simp_all;omega))
    · go_wp2_with fail
      go_ret;have e1:=Hv.out;rw [show l.length - i=0 from Cs] at e1;have e2:TQ5 l=i:=e1.symm;exact⟨TG (by simp [BQ4,e2];omega),rfl⟩
end Num
namespace Num
open Go.RowKit
@[simp] theorem take_drop_len2 (l:List UInt8) (a b:Nat):List.take (l.length - a - b) (List.drop (a+b) l)=l.drop (a+b):=Au Cv
def anyF (f:Nat->Bool) (n i:Nat):Bool:=(List.range' i (n+1 - i)).any f
theorem kQ5 (f:Nat->Bool) (n i:Nat) (h:i<=n):anyF f n i=(f i||anyF f n (i+1)):=by
  unfold anyF;obtain⟨m,hm⟩:∃ m,n+1 - i=m+1:=⟨n - i,Cs⟩;rw [hm,List.range'_succ,List.any_cons,show n+1 - (i+1)=m from Cs]
theorem GQ6 (f:Nat->Bool) (n i:Nat) (h:n < i):anyF f n i=false:=by
  unfold anyF;rw [show n+1 - i=0 from Cs];rfl
def rQ6 (t:List UInt8) (i:Nat):Bool:=wQ4 112 80 (t.drop i)&&(BQ4 16 true (t.take i)||underR 16 (t.take i))
def tQ6 (t:List UInt8) (i:Nat):Bool:=wQ4 101 69 (t.drop i)&&(BQ4 10 false (t.take i)||rowR 10 (t.take i))
def DQ4 (l:List UInt8):Bool :=
  if tQ4 120 88 l then anyF (rQ6 (l.drop 2)) (l.length - 2) 0 else BQ4 10 false l||anyF (tQ6 l) l.length 0
theorem sQ9 (l:List UInt8) (w:World) (hs:l.length<=1125899906842624) :
    Calls Tryz.prog 250 #[.string ⟨l.toArray⟩] w fun e w'=>e=.returned (.bool (DQ4 l))/\w=w':=by
  by_cases hh:tQ4 120 88 l=true
  · have h2:=KQ6 _ _ _ hh
    go_in
    go_wp2_with (first
      | (go_at_call 248;refine (lQ5 _ _ _ _ Cz).mono ?_;rintro e w1 ⟨rfl,rfl⟩))
    go_loop [4] (fun u=>∃ i:Nat,i<=l.length - 2+1/\u=i8 i/\anyF (rQ6 (l.drop 2)) (l.length - 2) i=anyF (rQ6 (l.drop 2)) (l.length - 2) 0) (fun u=>l.length - 2+1 - (intOf u).toNat)
    case atStart=>exact⟨0,Cs,rfl,rfl⟩
    case round =>
      obtain⟨i,hi,rfl,hv⟩:=hrel;have Hv:=hid hv;clear hv;by_cases hlt:i<=l.length - 2
      · go_wp2_with (first
          | (go_at_call 271;refine (lQ8 _ _ _ _ Cz).mono ?_;rintro e w1 ⟨rfl,rfl⟩)
          | (go_at_call 272;refine (qQ5 _ _ _ _ Cz Cs Cs).mono ?_;rintro e w1 ⟨rfl,rfl⟩)
          | (go_at_call 270;refine (oQ7 _ _ _ Cz Cs Cs).mono ?_;rintro e w1 ⟨rfl,rfl⟩))
        all_goals first
          | (go_round
             case rel =>
               have hok:rQ6 (l.drop 2) i=false:=by simp_all [rQ6]
               exact zdx
             case measure=>simp [intOf];omega)
          | (go_ret
             have hok:rQ6 (l.drop 2) i=true:=by simp_all [rQ6]
             exact⟨TG (by rw [DQ4,Bb hh,<- Hv.out,kQ5 _ _ i hlt,hok];rfl),Df⟩)
      · go_wp2_with fail
        go_ret;exact⟨TG (by rw [DQ4,Bb hh,<- Hv.out,GQ6 _ _ i Cs];rfl),Df⟩
  · have hh':tQ4 120 88 l=false:=by simpa using hh
    clear hh;by_cases hp:BQ4 10 false l=true
    · go_in
      go_wp2_with (first
        | (go_at_call 272;refine (qQ5 _ _ _ _ Cz Cs Cs).mono ?_;rintro e w1 ⟨rfl,rfl⟩)
        | (go_at_call 248;refine (lQ5 _ _ _ _ Cz).mono ?_;rintro e w1 ⟨rfl,rfl⟩))
      go_ret;exact⟨TG (by simp_all [DQ4]),Df⟩
    have Hp:BQ4 10 false l=false:=Li
    clear hp
    go_in
    go_wp2_with (first
      | (go_at_call 272;refine (qQ5 _ _ _ _ Cz Cs Cs).mono ?_;rintro e w1 ⟨rfl,rfl⟩)
      | (go_at_call 248;refine (lQ5 _ _ _ _ Cz).mono ?_;rintro e w1 ⟨rfl,rfl⟩))
    have HP:=hid Hp;clear Hp
    go_loop [5] (fun u=>∃ i:Nat,i<=l.length+1/\u=i8 i/\anyF (tQ6 l) l.length i=anyF (tQ6 l) l.length 0) (fun u=>l.length+1 - (intOf u).toNat)
    case atStart=>exact⟨0,Cs,rfl,rfl⟩
    case round =>
      obtain⟨i,hi,rfl,hv⟩:=hrel;have Hv:=hid hv;clear hv;by_cases hlt:i<=l.length
      · go_wp2_with (first
          | (go_at_call 271;refine (lQ8 _ _ _ _ Cz).mono ?_;rintro e w1 ⟨rfl,rfl⟩)
          | (go_at_call 272;refine (qQ5 _ _ _ _ Cz Cs Cs).mono ?_;rintro e w1 ⟨rfl,rfl⟩)
          | (go_at_call 251;refine (EQ6 _ _ _ Cz Cs Cs).mono ?_;rintro e w1 ⟨rfl,rfl⟩))
        all_goals first
          | (go_round
             case rel =>
               have hok:tQ6 l i=false:=by simp_all [tQ6]
               exact zdx
             case measure=>simp [intOf];omega)
          | (go_ret
             have hok:tQ6 l i=true:=by simp_all [tQ6]
             exact⟨TG (by rw [DQ4,Bc (by simp [hh']),HP.out,<- Hv.out,kQ5 _ _ i hlt,hok];rfl),Df⟩)
      · go_wp2_with fail
        go_ret;exact⟨TG (by rw [DQ4,Bc (by simp [hh']),HP.out,<- Hv.out,GQ6 _ _ i Cs];rfl),Df⟩
def KQ5 (l:List UInt8):Int :=
  if BQ5 l=true then 3 else if DQ4 l=true then 4 else
  if 1 < l.length/\bat l (l.length - 1)=105/\(BQ5 (l.take (l.length - 1))=true∨DQ4 (l.take (l.length - 1))=true∨rowR 10 (l.take (l.length - 1))=true) then 5 else 0
theorem MQ9 (l:List UInt8) (w:World) (hs:l.length<=1125899906842624) :
    Calls Tryz.prog 213 #[.string ⟨l.toArray⟩] w fun e w'=>e=.returned (.int .u8 (KQ5 l))/\w=w':=by
  go_in
  go_wp2_with (first
    | (go_at_call 249;refine (SQ9 _ _ Cz).mono ?_;rintro e w1 ⟨rfl,rfl⟩)
    | (go_at_call 250;refine (sQ9 _ _ Cz).mono ?_;rintro e w1 ⟨rfl,rfl⟩)
    | (go_at_call 251;refine (EQ6 _ _ _ Cz Cs Cs).mono ?_;rintro e w1 ⟨rfl,rfl⟩))
  all_goals go_ret
  all_goals refine⟨dE ?_,Df⟩
  all_goals simp only [KQ5,bat]
  all_goals first|(simp_all;done)|(simp_all;omega)
end Num
namespace Num
open Go.RowKit
theorem u8n (x:UInt8) (n:Nat) (h:n < 256):((x.toNat:Int)=(n:Int))↔x=UInt8.ofNat n:=by
 constructor
 ·intro e;apply Ay.1;rw [UInt8.toNat_ofNat'];have:x.toNat=n:=by omega
  rw [this,Nat.mod_eq_of_lt h]
 ·intro e;rw [e,UInt8.toNat_ofNat',Nat.mod_eq_of_lt h]
theorem i48 (x:UInt8):((x.toNat:Int)=48)↔x=48:=u8n x 48 Ct
theorem i95 (x:UInt8):((x.toNat:Int)=95)↔x=95:=u8n x 95 Ct
theorem i46 (x:UInt8):((x.toNat:Int)=46)↔x=46:=u8n x 46 Ct
def chk (b:Int) (p:UInt8):List UInt8->Bool
 | []=>true
 | u::r=>((u==95&&p != 95)||dg b u)&&chk b u r
theorem KQ8 (b:Int) (r:List UInt8):∀ (pre:List UInt8) (p:UInt8),cK b (pre++p::r) (pre.length+1)=chk b p r:=by
 induction r with
 | nil=>intro pre p;rw [CQ6 _ _ _ Cu];rfl
 | cons u r ih =>
  intro pre p;rw [SQ4 _ _ _ Cu];have h1:=ih (pre++[p]) u;simp only [List.append_assoc,Ao,Ar,V',Ae,Am,Nat.zero_add] at h1;rw [h1,chk]
  congr 1
  unfold okR bat;have e1:(pre++p::u::r)[pre.length+1]?.getD 0=u:=Cu
  have e2:(pre++p::u::r)[pre.length+1 - 1]?.getD 0=p:=Cu
  rw [e1,e2];simp only [i95];rw [Bg];simp
theorem xQ8 (b:Int) (hb:b<=16):∀ (n:Nat) (r:List UInt8) (p:UInt8),r.length<=n->dg b p=true->p≠95 ->
  (QG b r=r.length↔(chk b p r=true/\dg b ((p::r).getLast Cu)=true)):=by
 intro n
 induction n with
 | zero=>intro r p hr hp _;cases r with|nil=>simp [QG,chk,hp]|cons=>simp at hr
 | succ n ih =>
  intro r p hr hp hp95;have hus:=GX b hb
  match r,hr with
  | [],_=>simp [QG,chk,hp]
  | [u],_ =>
   by_cases hu:dg b u=true
   ·simp [QG,chk,hu]
   ·by_cases h95:u=95
    ·subst h95;simp [QG,chk,hus]
    ·simp [QG,chk,hu,h95]
  | u::d::r',hr =>
   by_cases hu:dg b u=true
   ·have h95:u≠95:=by intro e;rw [e,hus] at hu;cases hu
    have:=ih (d::r') u (by simp at hr ⊢;omega) hu h95;rw [QG,Bb hu,chk,hu];simp only [Bool.or_true,Bool.true_and,Ae,List.getLast_cons_cons] at this ⊢;rw [<- this];omega
   ·by_cases h95:u=95
    ·subst h95;by_cases hd:dg b d=true
     ·have hd95:d≠95:=by intro e;rw [e,hus] at hd;cases hd
      have:=ih r' d (by simp at hr ⊢;omega) hd hd95;rw [QG,Bc hu,Bb Db];simp only [hd,Be,chk,hp95,Bz,bne_iff_ne,ne_eq,not_false_eq_true,beq_self_eq_true,Bool.true_and,Bool.or_true,Bool.true_or,Ae,List.getLast_cons_cons,true_and] at this ⊢;have hpp:(p != 95||dg b 95)=true:=by simp [hp95]
      simp only [hpp,true_and,<- this];omega
     ·simp [QG,chk,hus,hd,hp95]
    ·simp [QG,chk,hu,h95]
theorem zQ4 (b:Int) (hb:b<=16) (l:List UInt8):rowR b l=true↔l≠[]/\aC b l=l.length:=by
 match l with
 | []=>simp [rowR]
 | c::r =>
  have hlast:(c::r)[(c::r).length - 1]?.getD 0=(c::r).getLast Cu:=by
   rw [List.getLast_eq_getElem,O' Cu];rfl
  unfold rowR;rw [hlast];by_cases hc:dg b c=true
  ·have h95:c≠95:=by intro e;rw [e,GX b hb] at hc;cases hc
   have h0:=KQ8 b r [] c;simp only [Ar,Am,Nat.zero_add] at h0;rw [SQ4 _ _ _ Cu,h0];have hok:okR b (c::r) 0=true:=by simp [okR,hc]
   have:=xQ8 b hb r.length r c (C' _) hc h95;simp only [hok,J',Option.getD_some,hc,ne_eq,reduceCtorEq,not_false_eq_true,decide_true,Bool.true_and,Bz,aC,Be,Ae,true_and];constructor
   ·intro h;have:=this.2 ⟨h.2,h.1⟩;omega
   ·intro h;have:=this.1 Cs;exact⟨this.2,this.1⟩
  ·simp [aC,hc]
end Num
namespace Num
open Go.RowKit
theorem sQ4 (b:Int) (u:UInt8) (r:List UInt8):QG b (u::r)=if dg b u then 1+QG b r else if u==95 then (match r with|d::r'=>if dg b d then 2+QG b r' else 0|[]=>0) else 0:=by
 cases r <;> rfl
theorem KQ7 (b:Int) (hb:b<=16) (c:UInt8) (r:List UInt8) (hc:dg b c=false) (h95:c≠95):∀ (n:Nat) (A:List UInt8),A.length<=n->QG b A=A.length->QG b (A++c::r)=A.length:=by
 intro n
 induction n with
 | zero=>intro A hA _;cases A with|nil=>simp [QG,sQ4,hc,h95]|cons=>simp at hA
 | succ n ih =>
  intro A hA h
  match A,hA,h with
  | [],_,_=>simp [QG,sQ4,hc,h95]
  | [u],_,h =>
   by_cases hu:dg b u=true
   ·simp [sQ4,hu,hc,h95]
   ·exact zdu
  | u::d::A',hA,h =>
   simp only [Ae] at hA;by_cases hu:dg b u=true
   ·have h2:QG b (d::A')=(d::A').length:=by rw [sQ4,Bb hu] at h;simp at h ⊢;omega
    have:=ih (d::A') Cv h2;simp only [Ao] at this ⊢;rw [sQ4,Bb hu,this];simp;omega
   ·by_cases e:u=95
    ·subst e;by_cases hd:dg b d=true
     ·have h2:QG b A'=A'.length:=by rw [sQ4,Bc hu,Bb Db] at h;simp [hd] at h;omega
      have:=ih A' Cs h2;simp only [Ao];rw [sQ4,Bc hu,Bb Db];simp only [hd,Be,this];simp;omega
     ·exact zek
    ·simp [QG,hu,e] at h
theorem HQ6 (b:Int) (hb:b<=16) (c:UInt8) (r A:List UInt8) (hc:dg b c=false) (h95:c≠95) (h:aC b A=A.length):aC b (A++c::r)=A.length:=by
 match A,h with
 | [],_=>simp [aC,hc]
 | a::A',h =>
  by_cases ha:dg b a=true
  ·have h2:QG b A'=A'.length:=by simp [aC,ha] at h;omega
   have:=KQ7 b hb c r hc h95 A'.length A' (C' _) h2;simp only [Ao,aC,ha,Be,this];simp;omega
  ·simp [aC,ha] at h
theorem aQ8 (b:Int):∀ (n:Nat) (l:List UInt8),l.length<=n->QG b (l.take (QG b l))=QG b l:=by
 intro n
 induction n with
 | zero=>intro l hl;cases l with|nil=>simp [QG]|cons=>simp at hl
 | succ n ih =>
  intro l hl
  match l,hl with
  | [],_=>simp [QG]
  | [u],_ =>
   by_cases hu:dg b u=true
   ·simp [QG,hu]
   ·by_cases e:u=95
    ·subst e;simp [sQ4,QG,hu]
    ·simp [sQ4,QG,hu,e]
  | u::d::l',hl =>
   simp only [Ae] at hl;by_cases hu:dg b u=true
   ·have:=ih (d::l') Cv;have e:QG b (u::d::l')=QG b (d::l')+1:=by rw [sQ4,Bb hu];omega
    rw [e,List.take_succ_cons,sQ4,Bb hu,this];omega
   ·by_cases e:u=95
    ·subst e;by_cases hd:dg b d=true
     ·have:=ih l' Cs;have e:QG b (95::d::l')=QG b l'+1+1:=by rw [sQ4,Bc hu,Bb Db];simp [hd];omega
      rw [e,List.take_succ_cons,List.take_succ_cons,sQ4,Bc hu,Bb Db];simp only [hd,Be,this];omega
     ·simp [QG,hu,hd]
    ·simp [QG,hu,e]
theorem HQ5 (b:Int) (l:List UInt8):aC b (l.take (aC b l))=aC b l:=by
 match l with
 | []=>simp [aC]
 | c::r =>
  by_cases hc:dg b c=true
  ·have e:aC b (c::r)=QG b r+1:=by simp [aC,hc];omega
   rw [e,List.take_succ_cons,aC,Bb hc,aQ8 b r.length r (C' _)];omega
  ·simp [aC,hc]
theorem kQ8 (b:Int):∀ (n:Nat) (l:List UInt8),l.length<=n->QG b l=l.length->∀ x∈l,dg b x=true∨x=95:=by
 intro n
 induction n with
 | zero=>intro l hl;cases l with|nil=>simp|cons=>simp at hl
 | succ n ih =>
  intro l hl h
  match l,hl,h with
  | [],_,_=>simp
  | [u],_,h =>
   by_cases hu:dg b u=true
   ·simp [hu]
   ·exact zdu
  | u::d::l',hl,h =>
   simp only [Ae] at hl;by_cases hu:dg b u=true
   ·have h2:QG b (d::l')=(d::l').length:=by rw [sQ4,Bb hu] at h;simp at h ⊢;omega
    have:=ih (d::l') Cv h2;intro x hx;rcases List.mem_cons.1 hx with rfl|hx
    ·exact .inl hu
    ·exact this x hx
   ·by_cases e:u=95
    ·subst e;by_cases hd:dg b d=true
     ·have h2:QG b l'=l'.length:=by rw [sQ4,Bc hu,Bb Db] at h;simp [hd] at h;omega
      have:=ih l' Cs h2;intro x hx;rcases List.mem_cons.1 hx with rfl|hx
      ·exact .inr rfl
      ·rcases List.mem_cons.1 hx with rfl|hx
       ·exact .inl hd
       ·exact this x hx
     ·exact zek
    ·simp [QG,hu,e] at h
theorem yQ7 (b:Int) (l:List UInt8) (h:aC b l=l.length):∀ x∈l,dg b x=true∨x=95:=by
 match l,h with
 | [],_=>simp
 | c::r,h =>
  by_cases hc:dg b c=true
  ·have h2:QG b r=r.length:=by simp [aC,hc] at h;omega
   intro x hx;rcases List.mem_cons.1 hx with rfl|hx
   ·exact .inl hc
   ·exact kQ8 b r.length r (C' _) h2 x hx
  ·simp [aC,hc] at h
theorem bQ5 (b:Int) (hb:b<=16) (l:List UInt8):aC b l=l.length↔(l=[]∨rowR b l=true):=by
 rw [zQ4 b hb];constructor
 ·intro h;by_cases e:l=[]
  ·exact .inl e
  ·exact .inr ⟨e,h⟩
 ·rintro (h|h)
  ·subst h;rfl
  ·exact h.2
theorem pQ8 (c:UInt8) (r:List UInt8):ES r=if bat (c::r) 1=43∨bat (c::r) 1=45 then 2 else 1:=by
 cases r with
 | nil=>simp [ES,bat]
 | cons d r=>simp [ES,bat]
theorem aQ6 (ls:List UInt8) (a b:Nat) (ha:a < 256) (hb:b < 256) (hls:∀ c:UInt8,Lib.indexByte ls c < 0↔¬ ((c.toNat:Int)=a∨(c.toNat:Int)=b)) (l:List UInt8) :
  wQ4 a b l=true↔l≠[]/\QF ls l=l.length:=by
 match l with
 | []=>simp [wQ4]
 | c::r =>
  have h1:=hls c;have hle:=qU 10 ((c::r).drop (ES r));have hfull:=bQ5 10 Cs ((c::r).drop (ES r));simp only [Ab,Ae] at hle hfull;have hs:=pQ8 c r;have hs2:1<=ES r:=by rw [hs];split <;> omega
  unfold wQ4;simp only [QF,ne_eq,reduceCtorEq,not_false_eq_true,true_and,Ae];have e0:bat (c::r) 0=(c.toNat:Int):=by simp [bat]
  rw [e0];by_cases hi:Lib.indexByte ls c < 0
  ·have:=h1.1 hi;have hn:¬ ((c.toNat:Int)=a)/\¬ ((c.toNat:Int)=b):=by omega
   simp [hi,hn.1,hn.2]
  ·have hn:(c.toNat:Int)=a∨(c.toNat:Int)=b:=by
    apply Classical.byContradiction;intro h;exact hi (h1.2 h)
   have hn':(decide ((c.toNat:Int)=a)||decide ((c.toNat:Int)=b))=true:=by simpa using hn
   rw [Bc hi,hn'];have key:(if bat (c::r) 1=43∨bat (c::r) 1=45 then rowR 10 ((c::r).drop 2) else rowR 10 (c::r).tail)=rowR 10 ((c::r).drop (ES r)):=by
    rw [hs];split <;> simp
   rw [key];simp only [Bool.and_true,Bz,Bq];have hR:=zQ4 10 Cs ((c::r).drop (ES r));simp only [Ab,Ae,ne_eq,List.drop_eq_nil_iff] at hR;rw [hR];constructor
   ·rintro⟨h2,h3,h4⟩;rw [Bb Cs];omega
   ·intro h;split at h <;> omega
theorem ixE (c:UInt8):Lib.indexByte [101,69] c < 0↔¬ ((c.toNat:Int)=(101:Nat)∨(c.toNat:Int)=(69:Nat)):=by
 have:=(show ∀ c:Fin 256,(decide (Lib.indexByte [101,69] (UInt8.ofNat c.val) < 0))=decide (¬ (((UInt8.ofNat c.val).toNat:Int)=(101:Nat)∨((UInt8.ofNat c.val).toNat:Int)=(69:Nat))) from Ef) ⟨c.toNat,c.toNat_lt⟩;simp only [UInt8.ofNat_toNat,decide_eq_decide] at this;exact this
theorem ixP (c:UInt8):Lib.indexByte [112,80] c < 0↔¬ ((c.toNat:Int)=(112:Nat)∨(c.toNat:Int)=(80:Nat)):=by
 have:=(show ∀ c:Fin 256,(decide (Lib.indexByte [112,80] (UInt8.ofNat c.val) < 0))=decide (¬ (((UInt8.ofNat c.val).toNat:Int)=(112:Nat)∨((UInt8.ofNat c.val).toNat:Int)=(80:Nat))) from Ef) ⟨c.toNat,c.toNat_lt⟩;simp only [UInt8.ofNat_toNat,decide_eq_decide] at this;exact this
theorem LQ9 (l:List UInt8):wQ4 101 69 l=true↔l≠[]/\QF [101,69] l=l.length:=aQ6 [101,69] 101 69 Ct Ct ixE l
theorem rQ9 (l:List UInt8):wQ4 112 80 l=true↔l≠[]/\QF [112,80] l=l.length:=aQ6 [112,80] 112 80 Ct Ct ixP l
end Num
namespace Num
open Go.RowKit
theorem PQ8 (cont:Nat->Bool) (d:Nat):∀ (f tx:Nat),tx<=d->d < tx+f->(∀ j,tx<=j->j < d->cont j=true)->cont d=false->oJ cont f tx=d:=by
 intro f
 induction f with
 | zero=>intro tx h1 h2;omega
 | succ f ih =>
  intro tx h1 h2 h3 h4;rcases Nat.eq_or_lt_of_le h1 with e|e
  ·subst e;rw [oJ,Bc (by simp [h4])]
  ·rw [oJ,Bb (h3 tx (C' _) e)];exact ih (tx+1) Cs Cs (fun j h5 h6=>h3 j Cs h6) h4
theorem nQ8 (cont:Nat->Bool):∀ (f tx:Nat),(∀ j,tx<=j->j < tx+f->cont j=true)->oJ cont f tx=tx+f:=by
 intro f
 induction f with
 | zero=>intro tx _;rfl
 | succ f ih =>
  intro tx h3;rw [oJ,Bb (h3 tx (C' _) Cs),ih (tx+1) (fun j h5 h6=>h3 j Cs Cs)];omega
theorem cQ9 (A B:List UInt8) (x:UInt8) (j:Nat) (h:j < A.length):bat (A++x::B) j=(A[j].toNat:Int):=by
 unfold bat;rw [List.getElem?_append_left h,O' h];rfl
theorem NQ8 (A B:List UInt8) (h:(46:UInt8) ∉ A):TQ5 (A++46::B)=A.length:=by
 unfold TQ5;refine PQ8 _ _ _ _ (Nat.zero_le _) Cu (fun j _ hj=>?_) ?_
 ·rw [cQ9 _ _ _ _ hj];have:A[j]≠46:=fun e=>h (e ▸ List.getElem_mem hj)
  simp only [i46,this,decide_false,Bu]
 ·simp [bat]
theorem XQ8 (l:List UInt8) (h:(46:UInt8) ∉ l):TQ5 l=l.length:=by
 unfold TQ5;rw [nQ8]
 ·simp
 intro j _ hj;simp only [Nat.sub_zero,Nat.zero_add] at hj;have:l[j]≠46:=fun e=>h (e ▸ List.getElem_mem hj)
 have e:bat l j=(l[j].toNat:Int):=by unfold bat;rw [O' hj];rfl
 rw [e];simp only [i46,this,decide_false,Bu]
theorem eQ6 (b:Int) (hex:Bool) (A B:List UInt8) (h:(46:UInt8) ∉ A):BQ4 b hex (A++46::B)=ZQ4 b hex A B:=by
 unfold BQ4;rw [NQ8 A B h];simp [List.drop_append,List.drop_eq_nil_of_le]
theorem IQ4 (b:Int) (hex:Bool) (l:List UInt8):BQ4 b hex l=true↔∃ A B,l=A++46::B/\(46:UInt8) ∉ A/\ZQ4 b hex A B=true:=by
 constructor
 ·intro h;by_cases hm:(46:UInt8)∈l
  ·obtain⟨A,B,e,hA⟩:=List.eq_append_cons_of_mem hm;exact⟨A,B,e,hA,by rw [<- eQ6 b hex A B hA,<- e];exact h⟩
  ·exfalso;unfold BQ4 at h;rw [XQ8 l hm] at h;simp at h
 ·rintro⟨A,B,rfl,hA,h⟩;rw [eQ6 b hex A B hA];exact h
theorem oQ8 (f:Nat->Bool) (n:Nat):anyF f n 0=true↔∃ i,i<=n/\f i=true:=by
 unfold anyF;rw [List.any_eq_true];constructor
 ·rintro⟨i,h1,h2⟩;exact⟨i,by have:=List.mem_range'_1.1 h1;omega,h2⟩
 ·rintro⟨i,h1,h2⟩;exact⟨i,List.mem_range'_1.2 Cs,h2⟩
theorem hQ6 (l:List UInt8) (p q:List UInt8->Bool):anyF (fun i=>p (l.drop i)&&q (l.take i)) l.length 0=true↔∃ X Y,l=X++Y/\p Y=true/\q X=true:=by
 rw [oQ8];constructor
 ·rintro⟨i,_,h⟩;simp only [Bz] at h;exact⟨l.take i,l.drop i,(List.take_append_drop i l).symm,h.1,h.2⟩
 ·rintro⟨X,Y,rfl,h1,h2⟩;exact⟨X.length,Cu,by simp [h1,h2]⟩
structure FQ4 (b:Int) (ls:List UInt8) (pw:List UInt8->Bool):Prop where
 hb:b<=16
 pwf:∀ Y,pw Y=true↔Y≠[]/\QF ls Y=Y.length
 st:∀ y Y,pw (y::Y)=true->dg b y=false/\y≠95/\y≠46
 dot:dg b 46=false
def DD (b:Int) (A B:List UInt8):Prop:=(rowR b A=true/\(B=[]∨rowR b B=true))∨(A=[]/\rowR b B=true)
theorem DD.full {b:Int} (hb:b<=16) {A B:List UInt8} (h:DD b A B):aC b A=A.length/\aC b B=B.length/\A.length+B.length≠0:=by
 rcases h with ⟨h1,h2⟩|⟨h1,h2⟩
 ·exact⟨((zQ4 b hb A).1 h1).2,(bQ5 b hb B).2 h2,by have:=fQ5 b A h1;omega⟩
 ·subst h1;exact⟨rfl,((zQ4 b hb B).1 h2).2,by have:=fQ5 b B h2;omega⟩
theorem PQ6 {b:Int} (hd:dg b 46=false) {A:List UInt8} (h:aC b A=A.length):(46:UInt8) ∉ A:=by
 intro hm;rcases yQ7 b A h 46 hm with h|h
 ·rw [hd] at h;cases h
 ·cases h
section
variable {b:Int}{ls:List UInt8}{pw:List UInt8->Bool}
theorem FQ4.pow (S:FQ4 b ls pw) {Y:List UInt8} (h:Y=[]∨pw Y=true):QF ls Y=Y.length:=by
 rcases h with h|h
 ·subst h;rfl
 ·exact ((S.pwf Y).1 h).2
theorem FQ4.rowTo (S:FQ4 b ls pw) {A Y:List UInt8} (hA:aC b A=A.length) (h:Y=[]∨pw Y=true):aC b (A++Y)=A.length:=by
 match Y,h with
 | [],_=>simpa using hA
 | y::Y',h =>
  have:=S.st y Y' (h.resolve_left Cu);exact HQ6 b S.hb y Y' A this.1 this.2.1 hA
theorem FQ4.dot_fwd (S:FQ4 b ls pw) {A B Y:List UInt8} (hD:DD b A B) (hY:Y=[]∨pw Y=true) (l:List UInt8) (hl:l=A++46::(B++Y)) :
  aC b l=A.length/\aC b l < l.length/\bat l (aC b l)=46/\aC b (l.drop (aC b l+1))=B.length/\QF ls (l.drop (aC b l+(aC b (l.drop (aC b l+1))+1)))=Y.length/\l.length=A.length+B.length+1+Y.length:=by
 obtain⟨hA,hB,_⟩:=hD.full S.hb;have e1:aC b l=A.length:=by rw [hl];exact HQ6 b S.hb 46 _ A S.dot Ct hA
 have e2:l.drop (A.length+1)=B++Y:=by rw [hl,List.drop_append,List.drop_eq_nil_of_le Cs];simp
 have e3:aC b (B++Y)=B.length:=S.rowTo hB hY;have e4:l.drop (A.length+(B.length+1))=Y:=by
  rw [show A.length+(B.length+1)=(A.length+1)+B.length from Cs,<- List.drop_drop,e2];simp
 refine⟨e1,?_,?_,?_,?_,?_⟩
 ·rw [e1,hl];simp
 ·rw [e1,hl];simp [bat]
 ·rw [e1,e2,e3]
 ·rw [e1,e2,e3,e4];exact S.pow hY
 ·rw [hl];simp;omega
theorem FQ4.dot_bwd (S:FQ4 b ls pw) (l:List UInt8) (h1:aC b l < l.length) (h2:bat l (aC b l)=46) (h3:aC b l+aC b (l.drop (aC b l+1))≠0)
  (h4:aC b l+(aC b (l.drop (aC b l+1))+1)+QF ls (l.drop (aC b l+(aC b (l.drop (aC b l+1))+1)))=l.length) :
  ∃ A B Y,l=A++46::(B++Y)/\DD b A B/\(Y=[]∨pw Y=true)/\Y.length=QF ls (l.drop (aC b l+(aC b (l.drop (aC b l+1))+1))):=by
 generalize hn:aC b l=n at *;generalize hm:aC b (l.drop (n+1))=m at *;have hA:aC b (l.take n)=(l.take n).length:=by
  have:=HQ5 b l;rw [hn] at this;rw [this,List.length_take];omega
 have hB:aC b ((l.drop (n+1)).take m)=((l.drop (n+1)).take m).length:=by
  have h5:=HQ5 b (l.drop (n+1));rw [hm] at h5;have h6:=qU b (l.drop (n+1));rw [hm] at h6;rw [h5,List.length_take];omega
 have e46:l[n]=46:=by
  have:bat l n=(l[n].toNat:Int):=by unfold bat;rw [O' h1];rfl
  rw [this] at h2;exact (i46 _).1 h2
 have hmle:m<=(l.drop (n+1)).length:=by have:=qU b (l.drop (n+1));omega
 refine⟨l.take n,(l.drop (n+1)).take m,l.drop (n+(m+1)),?_,?_,?_,?_⟩
 ·have:l.drop (n+(m+1))=(l.drop (n+1)).drop m:=by rw [List.drop_drop];congr 1;omega
  rw [this,List.take_append_drop,<- e46,<- Aq h1,List.take_append_drop]
 ·have l1:(l.take n).length=n:=by rw [List.length_take];omega
  have l2:((l.drop (n+1)).take m).length=m:=Hu
  rcases (bQ5 b S.hb _).1 hA with a|a
  ·have n0:n=0:=by rw [a] at l1;simpa using l1.symm
   right;refine⟨a,?_⟩
   rcases (bQ5 b S.hb _).1 hB with b'|b'
   ·rw [b'] at l2;simp at l2;omega
   ·exact b'
  ·left;exact⟨a,(bQ5 b S.hb _).1 hB⟩
 ·have hlen:(l.drop (n+(m+1))).length=l.length - (n+(m+1)):=Ab ..;by_cases hY:l.drop (n+(m+1))=[]
  ·exact .inl hY
  ·exact .inr ((S.pwf _).2 ⟨hY,Cs⟩)
 ·rw [Ab];omega
theorem FQ4.no_fwd (S:FQ4 b ls pw) {A Y:List UInt8} (hA:rowR b A=true) (hY:Y=[]∨pw Y=true) (l:List UInt8) (hl:l=A++Y) :
  aC b l=A.length/\0 < A.length/\¬ (aC b l < l.length/\bat l (aC b l)=46)/\QF ls (l.drop (aC b l))=Y.length/\l.length=A.length+Y.length:=by
 have hA2:=((zQ4 b S.hb A).1 hA).2;have e1:aC b l=A.length:=by rw [hl];exact S.rowTo hA2 hY
 refine⟨e1,fQ5 b A hA,?_,?_,?_⟩
 ·rw [e1];rintro⟨h1,h2⟩
  match Y,hY with
  | [],_=>rw [hl] at h1;simp at h1
  | y::Y',hY =>
   have:=S.st y Y' (hY.resolve_left Cu);rw [hl] at h2;simp only [bat,Ax (C' _),Nat.sub_self,J',Option.getD_some] at h2;exact this.2.2 ((i46 _).1 h2)
 ·rw [e1,hl];simp;exact S.pow hY
 ·rw [hl];simp
theorem FQ4.no_bwd (S:FQ4 b ls pw) (l:List UInt8) (h1:0 < aC b l) (h4:aC b l+QF ls (l.drop (aC b l))=l.length) :
  ∃ A Y,l=A++Y/\rowR b A=true/\(Y=[]∨pw Y=true)/\Y.length=QF ls (l.drop (aC b l)):=by
 generalize hn:aC b l=n at *;have hle:=qU b l;have hA:aC b (l.take n)=(l.take n).length:=by
  have:=HQ5 b l;rw [hn] at this;rw [this,List.length_take];omega
 refine⟨l.take n,l.drop n,(List.take_append_drop n l).symm,?_,?_,?_⟩
 ·rcases (bQ5 b S.hb _).1 hA with a|a
  ·have l1:(l.take n).length=n:=by rw [List.length_take];omega
   rw [a] at l1;simp at l1;omega
  ·exact a
 ·by_cases hY:l.drop n=[]
  ·exact .inl hY
  ·exact .inr ((S.pwf _).2 ⟨hY,Fb⟩)
 ·rw [Ab];omega
end
theorem NQ9:FQ4 10 [101,69] (wQ4 101 69) where
 hb:=Cs
 pwf:=LQ9
 st:=by
  intro y Y h;have:(y.toNat:Int)=101∨(y.toNat:Int)=69:=by
   exact zdd
  rcases this with h|h
  ·rw [(u8n y 101 Ct).1 h];decide
  ·rw [(u8n y 69 Ct).1 h];decide
 dot:=Ct
theorem UQ9:FQ4 16 [112,80] (wQ4 112 80) where
 hb:=Cs
 pwf:=rQ9
 st:=by
  intro y Y h;have:(y.toNat:Int)=112∨(y.toNat:Int)=80:=by
   exact zdd
  rcases this with h|h
  ·rw [(u8n y 112 Ct).1 h];decide
  ·rw [(u8n y 80 Ct).1 h];decide
 dot:=Ct
end Num
namespace Num
open Go.RowKit
theorem WQ4 (b:Int) (A B:List UInt8):ZQ4 b false A B=true↔DD b A B:=by
 unfold ZQ4 DD;simp
def CQ4 (l:List UInt8):Bool:=BQ4 10 false l||anyF (tQ6 l) l.length 0
theorem AQ5 (l:List UInt8):CQ4 l=true↔(∃ A B Y,l=A++46::(B++Y)/\(46:UInt8) ∉ A/\DD 10 A B/\(Y=[]∨wQ4 101 69 Y=true))∨(∃ A Y,l=A++Y/\rowR 10 A=true/\wQ4 101 69 Y=true):=by
 have h1:=hQ6 l (wQ4 101 69) (fun X=>BQ4 10 false X||rowR 10 X);unfold CQ4;rw [Bv,IQ4];have h2:(fun i=>wQ4 101 69 (l.drop i)&&(fun X=>BQ4 10 false X||rowR 10 X) (l.take i))=tQ6 l:=rfl;rw [h2] at h1;rw [h1];constructor
 ·rintro (⟨A,B,e,hA,h⟩|⟨X,Y,e,hY,h⟩)
  ·exact .inl ⟨A,B,[],Fa,hA,(WQ4 10 A B).1 h,.inl rfl⟩
  ·rw [Bv,IQ4] at h;rcases h with ⟨A,B,e2,hA,h⟩|h
   ·exact .inl ⟨A,B,Y,by rw [e,e2];simp,hA,(WQ4 10 A B).1 h,.inr hY⟩
   ·exact .inr ⟨X,Y,e,h,hY⟩
 ·rintro (⟨A,B,Y,e,hA,h,hY⟩|⟨A,Y,e,h,hY⟩)
  ·rcases hY with hY|hY
   ·subst hY;exact .inl ⟨A,B,Fa,hA,(WQ4 10 A B).2 h⟩
   ·exact .inr ⟨A++46::B,Y,Kq,hY,by rw [Bv,IQ4];exact .inl ⟨A,B,rfl,hA,(WQ4 10 A B).2 h⟩⟩
  ·exact .inr ⟨A,Y,e,hY,by rw [Bv];exact .inr h⟩
theorem QQ7 (l:List UInt8) (hn:¬ (aC 10 l=l.length/\0 < aC 10 l)):(CQ4 l=true↔tO l=4)/\(tO l=4∨tO l=0):=by
 have S:=NQ9;constructor
 ·rw [AQ5];constructor
  ·rintro (⟨A,B,Y,e,hA,h,hY⟩|⟨A,Y,e,h,hY⟩)
   ·obtain⟨e1,e2,e3,e4,e5,e6⟩:=S.dot_fwd h hY l e;have:=(h.full S.hb).2.2;unfold tO WW;rw [Bc hn,Bb ⟨e2,e3⟩,Bc Cs,Bb (by rw [e5];omega)]
   ·obtain⟨e1,e2,e3,e4,e5⟩:=S.no_fwd h (.inr hY) l e;have hY0:0 < Y.length:=List.length_pos_iff.2 ((LQ9 Y).1 hY).1;unfold tO WW;rw [Bc hn,Bc e3,Bb Il]
  ·intro h;unfold tO WW at h;rw [Bc hn] at h;by_cases hd:aC 10 l < l.length/\bat l (aC 10 l)=46
   ·rw [Bb hd] at h;by_cases h0:aC 10 l+aC 10 (l.drop (aC 10 l+1))=0
    ·exact zef
    ·rw [Bc h0] at h;split at h
     ·rename_i hc;obtain⟨A,B,Y,e,hD,hY,hl⟩:=S.dot_bwd l hd.1 hd.2 h0 hc.2.2;exact .inl ⟨A,B,Y,e,PQ6 S.dot (hD.full S.hb).1,hD,hY⟩
     ·cases h
   ·rw [Bc hd] at h;split at h
    ·rename_i hc;simp only [Nat.add_zero,Nat.zero_add] at hc;obtain⟨A,Y,e,hA,hY,hl⟩:=S.no_bwd l hc.1 hc.2.2;exact zdo
    ·cases h
 ·unfold tO WW;rw [Bc hn]
  repeat' split
  all_goals simp
def XQ4 (l:List UInt8):Bool:=decide (l=[48])||(rowR 10 l&&!decide (bat l 0=48))||(decide (1 < l.length)&&decide (bat l 0=48)&&underR 8 l.tail)
theorem AQ7 (r:List UInt8):Lib.trimPrefix (95::r) [95]=r:=by
 simp [Lib.trimPrefix,Lib.hasPrefix,List.isPrefixOf]
theorem zQ6 (l:List UInt8) (h:∀ r,l≠95::r):Lib.trimPrefix l [95]=l/\Lib.hasPrefix l [95]=false:=by
 match l,h with
 | [],_=>simp [Lib.trimPrefix,Lib.hasPrefix,List.isPrefixOf]
 | c::r,h =>
  have:c≠95:=by intro e;exact h r (by rw [e])
  have h2:(95==c)=false:=by simp;exact fun e=>this e.symm
  simp [Lib.trimPrefix,Lib.hasPrefix,List.isPrefixOf,h2]
theorem iQ5 (b:Int) (hb:b<=16) (r:List UInt8):underR b (95::r)=rowR b r:=by
 have h0:rowR b (95::r)=false:=by simp [rowR,GX b hb]
 unfold underR;rw [h0];rw [Bg];simp only [Bool.false_or,Bz,Bq,List.tail_cons,Ae];constructor
 ·exact fun h=>h.2
 ·intro h;have:=fQ5 b r h;exact⟨⟨Cs,by simp [bat]⟩,h⟩
theorem gQ5 (b:Int) (l:List UInt8) (h:∀ r,l≠95::r):underR b l=rowR b l:=by
 unfold underR;have:¬ bat l 0=95∨l=[]:=by
  match l,h with
  | [],_=>exact .inr rfl
  | c::r,h =>
   left;intro e;simp only [bat,J',Option.getD_some,i95] at e;exact h r (by rw [e])
 rcases this with h|h
 ·simp [h]
 ·subst h;simp
theorem wQ8 (l:List UInt8):(∃ r,l=95::r)∨(∀ r,l≠95::r):=by
 by_cases h:∃ r,l=95::r
 ·exact .inl h
 ·exact .inr fun r e=>h ⟨r,e⟩
theorem rQ5 (b:Int) (hb:b<=16) (l:List UInt8):dF b l=if underR b l then 3 else 0:=by
 unfold dF;rcases wQ8 l with ⟨r,rfl⟩|h
 ·rw [AQ7,iQ5 b hb];have:=zQ4 b hb r;by_cases hr:rowR b r=true
  ·rw [Bb (this.1 hr),Bb hr]
  ·rw [Bc (fun h=>hr (this.2 h)),Bc hr]
 ·rw [(zQ6 l h).1,gQ5 b l h];have:=zQ4 b hb l;by_cases hr:rowR b l=true
  ·rw [Bb (this.1 hr),Bb hr]
  ·rw [Bc (fun h=>hr (this.2 h)),Bc hr]
theorem FQ9 (c:UInt8) (h:dg 8 c=true):dg 10 c=true:=by
 simp only [dg,Bq] at *;omega
theorem HQ7 (a b:Int) (hab:∀ c,dg a c=true->dg b c=true) (hb:b<=16):∀ (n:Nat) (l:List UInt8),l.length<=n->QG a l=l.length->QG b l=l.length:=by
 intro n
 induction n with
 | zero=>intro l hl;cases l with|nil=>simp [QG]|cons=>simp at hl
 | succ n ih =>
  intro l hl h
  match l,hl,h with
  | [],_,_=>rfl
  | u::r,hl,h =>
   simp only [Ae] at hl;rw [sQ4] at h ⊢;by_cases hu:dg a u=true
   ·rw [Bb hu] at h;rw [Bb (hab u hu),ih r Cs (by simp at h;omega)];simp;omega
   ·rw [Bc hu] at h;by_cases e:u=95
    ·subst e;rw [Bc (by rw [GX b hb];simp)];simp only [beq_self_eq_true,Be] at h ⊢
     match r,h with
     | [],h=>simp at h
     | d::r',h =>
      simp only [Ae] at hl;by_cases hd:dg a d=true
      ·simp only [hd,Be,Ae] at h;simp only [hab d hd,Be,ih r' Cs Cs,Ae];omega
      ·simp [hd] at h
    ·simp [e] at h
theorem FQ6 (a b:Int) (hab:∀ c,dg a c=true->dg b c=true) (ha:a<=16) (hb:b<=16) (l:List UInt8) (h:rowR a l=true):rowR b l=true:=by
 rw [zQ4 a ha] at h;rw [zQ4 b hb];refine⟨h.1,?_⟩
 match l,h with
 | c::r,h =>
  by_cases hc:dg a c=true
  ·have h2:=h.2;simp only [aC,hc,Be,Ae] at h2;simp only [aC,hab c hc,Be,Ae,HQ7 a b hab hb r.length r (C' _) Cs];omega
  ·have h2:=h.2;simp [aC,hc] at h2
theorem RQ5 (t:List UInt8) (h:underR 8 t=true):aC 10 (48::t)=t.length+1:=by
 have h48:dg 10 48=true:=Ct
 have key:QG 10 t=t.length:=by
  rcases wQ8 t with ⟨r,rfl⟩|hno
  ·rw [iQ5 8 Cs] at h;have h10:=FQ6 8 10 FQ9 Cs Cs r h;have:=(zQ4 10 Cs r).1 h10
   match r,this with
   | d::r',this =>
    have hd:dg 10 d=true:=by
     apply Classical.byContradiction;intro hn;have h2:=this.2;simp [aC,hn] at h2
    have h2:=this.2;simp only [aC,hd,Be,Ae] at h2;rw [AX 10 d r' hd Cs];simp [aC,hd];omega
  ·rw [gQ5 8 t hno] at h;have h10:=FQ6 8 10 FQ9 Cs Cs t h;have:=(zQ4 10 Cs t).1 h10;rw [ZL 10 t ?_ Cs]
   ·exact this.2
   ·intro u d r' e eu;exfalso;exact hno (d::r') (by rw [e,eu])
 simp only [aC,h48,Be,key];omega
theorem VQ5 (l:List UInt8):tO l=if XQ4 l=true then 3 else if CQ4 l=true then 4 else 0:=by
 by_cases hn:aC 10 l=l.length/\0 < aC 10 l
 ·have hr:rowR 10 l=true:=(zQ4 10 Cs l).2 ⟨List.length_pos_iff.1 Cs,hn.1⟩;have hmem:=yQ7 10 l hn.1;have hf:CQ4 l=false:=by
   apply Classical.byContradiction;intro h;have h:CQ4 l=true:=Dp
   rw [AQ5] at h;rcases h with ⟨A,B,Y,e,_⟩|⟨A,Y,e,_,hY⟩
   ·have:=hmem 46 Kq;rcases this with h|h
    ·revert h;decide
    ·cases h
   ·match Y,hY with
    | y::Y',hY =>
     have h3:=NQ9.st y Y' hY;rcases hmem y Kq with h|h
     ·rw [h3.1] at h;cases h
     ·exact h3.2.1 h
  rw [hf];unfold tO;rw [Bb hn];by_cases h48:bat l 0=48
  ·by_cases h1:aC 10 l=1
   ·have:l=[48]:=by
     match l,hn,h48 with
     | [c],_,h48=>simp only [bat,J',Option.getD_some,i48] at h48;rw [h48]
     | [],hn,_=>simp [aC] at hn
     | _::_::_,hn,_=>rw [h1] at hn;simp at hn
    rw [Bb (.inr h1),Bb (by simp [XQ4,this])]
   ·rw [Bc (by simp [h48,h1]),rQ5 8 Cs];have hne:l≠[48]:=by intro e;rw [e] at h1;exact h1 Ct
    have:XQ4 l=underR 8 l.tail:=by
     unfold XQ4;rw [hr,h48];simp [hne];omega
    rw [this];simp
  ·rw [Bb (.inl h48),Bb (by simp [XQ4,hr,h48])]
 ·obtain⟨h1,h2⟩:=QQ7 l hn;have hi:XQ4 l=false:=by
   unfold XQ4;have a1:l≠[48]:=by intro e;rw [e] at hn;exact hn Ct
   have a2:rowR 10 l=false:=by
    apply Classical.byContradiction;intro h;have h:=(zQ4 10 Cs l).1 Dp;exact hn ⟨h.2,by rw [h.2];exact List.length_pos_iff.2 h.1⟩
   have a3:¬ ((1 < l.length/\bat l 0=48)/\underR 8 l.tail=true):=by
    rintro⟨⟨b1,b2⟩,b3⟩
    match l,b1,b2,b3 with
    | c::t,b1,b2,b3 =>
     simp only [bat,J',Option.getD_some,i48] at b2;subst b2;exact hn ⟨by rw [RQ5 t b3];simp,by rw [RQ5 t b3];omega⟩
   simp only [a1,a2,decide_false,Bool.false_and,Bool.or_false,Bool.false_or];rw [Bool.eq_false_iff];simpa [Bz] using a3
  rw [hi];simp only [Ba,Bf];rcases h2 with h2|h2
  ·rw [Bb (h1.2 h2),h2]
  ·rw [Bc (by rw [h1,h2];decide),h2]
end Num
namespace Num
open Go.RowKit
def zQ5 (l:List UInt8):Bool:=anyF (rQ6 l) l.length 0
theorem lQ6 (l:List UInt8):zQ5 l=true↔∃ X Y,l=X++Y/\wQ4 112 80 Y=true/\(BQ4 16 true X=true∨underR 16 X=true):=by
 have h1:=hQ6 l (wQ4 112 80) (fun X=>BQ4 16 true X||underR 16 X);have h2:(fun i=>wQ4 112 80 (l.drop i)&&(fun X=>BQ4 16 true X||underR 16 X) (l.take i))=rQ6 l:=rfl;rw [h2] at h1;unfold zQ5;rw [h1];simp only [Bv]
def HH (u:Bool) (A B:List UInt8):Prop:=(rowR 16 A=true/\(B=[]∨rowR 16 B=true))∨(u=false/\A=[]/\rowR 16 B=true)
theorem HH.dd {u:Bool}{A B:List UInt8} (h:HH u A B):DD 16 A B:=by
 rcases h with h|h
 ·exact .inl h
 ·exact .inr h.2
def HF (u:Bool) (t:List UInt8):Prop :=
 (∃ A B Y,t=A++46::(B++Y)/\(46:UInt8) ∉ A/\HH u A B/\wQ4 112 80 Y=true)∨(∃ A Y,t=A++Y/\rowR 16 A=true/\wQ4 112 80 Y=true)
theorem ZQ7 (u:Bool) (t:List UInt8):(HF u t↔zY u t=4)/\(zY u t=4∨zY u t=0):=by
 have S:=UQ9;constructor
 ·constructor
  ·rintro (⟨A,B,Y,e,hA,h,hY⟩|⟨A,Y,e,h,hY⟩)
   ·obtain⟨e1,e2,e3,e4,e5,e6⟩:=S.dot_fwd h.dd (.inr hY) t e;have:=(h.dd.full S.hb).2.2;have hY0:0 < Y.length:=List.length_pos_iff.2 ((rQ9 Y).1 hY).1;have hu:¬ (aC 16 t=0/\u=true):=by
     rintro⟨h1,h2⟩;rcases h with h|h
     ·have:=fQ5 16 A h.1;omega
     ·rw [h2] at h;cases h.1
    unfold zY yW;rw [Bc hu,Bb ⟨e2,e3⟩,Bc Cs,Bb (by rw [e5];omega)]
   ·obtain⟨e1,e2,e3,e4,e5⟩:=S.no_fwd h (.inr hY) t e;have hY0:0 < Y.length:=List.length_pos_iff.2 ((rQ9 Y).1 hY).1;unfold zY yW;rw [Bc Cs,Bc e3,Bc Cs,Bb Il]
  ·intro h;unfold zY yW at h;by_cases hu:aC 16 t=0/\u=true
   ·rw [Bb hu] at h;cases h
   rw [Bc hu] at h;by_cases hd:aC 16 t < t.length/\bat t (aC 16 t)=46
   ·rw [Bb hd] at h;by_cases h0:aC 16 t+aC 16 (t.drop (aC 16 t+1))=0
    ·exact zef
    ·rw [Bc h0] at h;split at h
     ·rename_i hc;obtain⟨A,B,Y,e,hD,hY,hl⟩:=S.dot_bwd t hd.1 hd.2 h0 hc.2;have hY':wQ4 112 80 Y=true:=hY.resolve_left (by intro e0;rw [e0] at hl;simp at hl;omega);refine .inl ⟨A,B,Y,e,PQ6 S.dot (hD.full S.hb).1,?_,hY'⟩;rcases hD with hD|hD
      ·exact .inl hD
      ·refine .inr ⟨?_,hD⟩;have:=(S.dot_fwd (.inr hD) hY t e).1;rw [hD.1] at this;cases u with
       | false=>rfl
       | true=>exact absurd ⟨this,rfl⟩ hu
     ·cases h
   ·rw [Bc hd] at h;by_cases h0:aC 16 t=0
    ·exact zef
    rw [Bc h0] at h;split at h
    ·rename_i hc;simp only [Nat.add_zero,Nat.zero_add] at hc;obtain⟨A,Y,e,hA,hY,hl⟩:=S.no_bwd t Cs hc.2;exact zdo
    ·cases h
 ·unfold zY yW
  repeat' split
  all_goals simp
theorem WQ5 (A B:List UInt8) (h:∀ r,A≠95::r):ZQ4 16 true A B=true↔HH false A B:=by
 unfold ZQ4 HH;rw [gQ5 16 A h];simp
theorem XQ6 (A B:List UInt8):ZQ4 16 true (95::A) B=true↔HH true A B:=by
 have h0:rowR 16 (95::A)=false:=by simp [rowR,GX 16 Cs]
 unfold ZQ4 HH;rw [iQ5 16 Cs,h0];simp
theorem gQ9 (l:List UInt8) (h:∀ r,l≠95::r):zQ5 l=true↔HF false l:=by
 rw [lQ6];have hpre:∀ X Y,l=X++Y->(∀ r,X≠95::r):=by
  intro X Y e r e2;exact h (r++Y) (by rw [e,e2];rfl)
 constructor
 ·rintro⟨X,Y,e,hY,hX|hX⟩
  ·obtain⟨A,B,e2,hA,hp⟩:=(IQ4 16 true X).1 hX;refine .inl ⟨A,B,Y,by rw [e,e2];simp,hA,(WQ5 A B ?_).1 hp,hY⟩;intro r e3;exact hpre X Y e (r++46::B) (by rw [e2,e3];rfl)
  ·exact .inr ⟨X,Y,e,by rw [<- gQ5 16 X (hpre X Y e)];exact hX,hY⟩
 ·rintro (⟨A,B,Y,e,hA,hp,hY⟩|⟨A,Y,e,hA,hY⟩)
  ·refine⟨A++46::B,Y,Kq,hY,.inl ((IQ4 16 true _).2 ⟨A,B,rfl,hA,(WQ5 A B ?_).2 hp⟩)⟩;intro r e3;exact h (r++46::(B++Y)) (by rw [e,e3];rfl)
  ·exact⟨A,Y,e,hY,.inr (by rw [gQ5 16 A (hpre A Y e)];exact hA)⟩
theorem wQ9 (t:List UInt8):zQ5 (95::t)=true↔HF true t:=by
 rw [lQ6];constructor
 ·rintro⟨X,Y,e,hY,hX⟩
  match X,e,hX with
  | [],e,hX=>rcases hX with hX|hX <;> simp [BQ4,TQ5,oJ,underR,rowR] at hX
  | x::X',e,hX =>
   simp only [Ao,List.cons.injEq] at e;obtain⟨rfl,e⟩:=e;rcases hX with hX|hX
   ·obtain⟨A,B,e2,hA,hp⟩:=(IQ4 16 true _).1 hX
    match A,e2,hA,hp with
    | [],e2,_,_=>simp at e2
    | a::A',e2,hA,hp =>
     simp only [Ao,List.cons.injEq] at e2;obtain⟨rfl,e2⟩:=e2;exact .inl ⟨A',B,Y,by rw [e,e2];simp,fun hm=>hA (Bm _ hm),(XQ6 A' B).1 hp,hY⟩
   ·exact .inr ⟨X',Y,e,by rw [<- iQ5 16 Cs];exact hX,hY⟩
 ·rintro (⟨A,B,Y,e,hA,hp,hY⟩|⟨A,Y,e,hA,hY⟩)
  ·refine⟨95::(A++46::B),Y,Kq,hY,.inl ((IQ4 16 true _).2 ⟨95::A,B,rfl,?_,(XQ6 A B).2 hp⟩)⟩;intro hm;rcases List.mem_cons.1 hm with hm|hm
   ·cases hm
   ·exact hA hm
  ·exact⟨95::A,Y,Eu,hY,.inr (by rw [iQ5 16 Cs];exact hA)⟩
theorem tQ9 (l:List UInt8):SP l=if underR 16 l=true then 3 else if zQ5 l=true then 4 else 0:=by
 unfold SP;rw [rQ5 16 Cs];by_cases hu:underR 16 l=true
 ·simp [hu]
 ·rw [Bc hu,Bc hu];simp only [ne_eq,not_true_eq_false,Bf];have key:zQ5 l=true↔HF (Lib.hasPrefix l [95]) (Lib.trimPrefix l [95]):=by
   rcases wQ8 l with ⟨r,rfl⟩|h
   ·rw [AQ7,show Lib.hasPrefix (95::r) [95]=true from by simp [Lib.hasPrefix,List.isPrefixOf]];exact wQ9 r
   ·rw [(zQ6 l h).1,(zQ6 l h).2];exact gQ9 l h
  obtain⟨h1,h2⟩:=ZQ7 (Lib.hasPrefix l [95]) (Lib.trimPrefix l [95]);rcases h2 with h2|h2
  ·rw [Bb (key.2 (h1.2 h2)),h2]
  ·rw [Bc (by rw [key,h1,h2];decide),h2]
theorem uQ9 (l:List UInt8):BQ5 l=(XQ4 l||(tQ4 98 66 l&&underR 2 (l.drop 2))||(!tQ4 98 66 l&&((tQ4 111 79 l&&underR 8 (l.drop 2))||(!tQ4 111 79 l&&tQ4 120 88 l&&underR 16 (l.drop 2))))):=by
 unfold BQ5 XQ4;simp only [Bool.or_assoc]
theorem EQ8 (l:List UInt8):DQ4 l=if tQ4 120 88 l=true then zQ5 (l.drop 2) else CQ4 l:=by
 unfold DQ4 zQ5 CQ4;simp only [Ab]
theorem LQ6 (a b:Int) (z c:UInt8) (r:List UInt8):tQ4 a b (z::c::r)=(decide ((z.toNat:Int)=48)&&(decide ((c.toNat:Int)=a)||decide ((c.toNat:Int)=b))):=by
 simp [tQ4,bat]
theorem TQ4 (a b:Int) (l:List UInt8) (h:∀ z c r,l≠z::c::r):tQ4 a b l=false:=by
 match l,h with
 | [],_=>simp [tQ4]
 | [z],_=>simp [tQ4]
 | z::c::r,h=>exact absurd rfl (h z c r)
theorem zQ8 (c:UInt8) (r:List UInt8) (hc:dg 10 c=false) (h95:c≠95) (h46:c≠46) (hE:QF [101,69] (c::r)=0):tO (48::c::r)=0:=by
 have h48:dg 10 48=true:=Ct
 have h1:aC 10 (48::c::r)=1:=by
  simp [aC,h48,sQ4,hc,h95]
 unfold tO WW;rw [h1];have h2:¬ (bat (48::c::r) 1=46):=by simp only [bat,I',J',Option.getD_some,i46];exact h46
 simp [h2,hE]
theorem pQ9 (c:UInt8) (r:List UInt8) (h:¬ ((c.toNat:Int)=(101:Nat)∨(c.toNat:Int)=(69:Nat))):QF [101,69] (c::r)=0:=by
 simp only [QF];rw [Bb ((ixE c).2 h)]
theorem FQ7 (l:List UInt8):CJ l=if BQ5 l=true then 3 else if DQ4 l=true then 4 else 0:=by
 rw [uQ9,EQ8]
 match l with
 | []=>rw [TQ4 _ _ [] Cu,TQ4 _ _ [] Cu,TQ4 _ _ [] Cu];simp [CJ,VQ5]
 | [z]=>rw [TQ4 _ _ [z] Cu,TQ4 _ _ [z] Cu,TQ4 _ _ [z] Cu];simp [CJ,VQ5]
 | z::c::r =>
  simp only [LQ6,CJ,List.drop_succ_cons,List.drop_zero];by_cases hz:(z.toNat:Int)=48
  ·have hz':z=48:=(i48 z).1 hz;subst hz';have special:∀ n:Nat,n < 256->(c.toNat:Int)=n->dg 10 (UInt8.ofNat n)=false->UInt8.ofNat n≠95->UInt8.ofNat n≠46->n≠101->n≠69->XQ4 (48::c::r)=false/\CQ4 (48::c::r)=false:=by
    intro n hn hc h1 h2 h3 h4 h5;have hcn:=(u8n c n hn).1 hc;have h0:=zQ8 c r (by rw [hcn];exact h1) (by rw [hcn];exact h2) (by rw [hcn];exact h3) (pQ9 c r Cs);rw [VQ5] at h0;cases hi:XQ4 (48::c::r)
    ·cases hf:CQ4 (48::c::r)
     ·exact zbg
     ·rw [hi,hf] at h0;simp at h0
    ·rw [hi] at h0;simp at h0
   rw [Bb hz];simp only [hz,decide_true,Bool.true_and];by_cases hb:(c.toNat:Int)=98∨(c.toNat:Int)=66
   ·have hsp:XQ4 (48::c::r)=false/\CQ4 (48::c::r)=false:=by
     rcases hb with h|h
     ·exact special 98 Ct h Ct Ct Ct Ct Ct
     ·exact special 66 Ct h Ct Ct Ct Ct Ct
    have hx:¬ ((c.toNat:Int)=120)/\¬ ((c.toNat:Int)=88):=Cs
    have hb':(decide ((c.toNat:Int)=98)||decide ((c.toNat:Int)=66))=true:=by simpa using hb
    rw [Bb hb,rQ5 2 Cs,hsp.1,hsp.2,hb'];simp [hx.1,hx.2]
   ·have hb':(decide ((c.toNat:Int)=98)||decide ((c.toNat:Int)=66))=false:=by simp;omega
    rw [Bc hb,hb'];by_cases ho:(c.toNat:Int)=111∨(c.toNat:Int)=79
    ·have hsp:XQ4 (48::c::r)=false/\CQ4 (48::c::r)=false:=by
      rcases ho with h|h
      ·exact special 111 Ct h Ct Ct Ct Ct Ct
      ·exact special 79 Ct h Ct Ct Ct Ct Ct
     have hx:¬ ((c.toNat:Int)=120)/\¬ ((c.toNat:Int)=88):=Cs
     have ho':(decide ((c.toNat:Int)=111)||decide ((c.toNat:Int)=79))=true:=by simpa using ho
     rw [Bb ho,rQ5 8 Cs,hsp.1,hsp.2,ho'];simp [hx.1,hx.2]
    ·have ho':(decide ((c.toNat:Int)=111)||decide ((c.toNat:Int)=79))=false:=by simp;omega
     rw [Bc ho,ho'];by_cases hx:(c.toNat:Int)=120∨(c.toNat:Int)=88
     ·have hsp:XQ4 (48::c::r)=false/\CQ4 (48::c::r)=false:=by
       rcases hx with h|h
       ·exact special 120 Ct h Ct Ct Ct Ct Ct
       ·exact special 88 Ct h Ct Ct Ct Ct Ct
      have hx':(decide ((c.toNat:Int)=120)||decide ((c.toNat:Int)=88))=true:=Hm
      rw [Bb hx,tQ9,hsp.1,hx'];simp
     ·have hx':(decide ((c.toNat:Int)=120)||decide ((c.toNat:Int)=88))=false:=by simp;omega
      rw [Bc hx,hx',VQ5];simp
  ·rw [Bc hz,VQ5];simp [hz]
theorem tQ7 (l:List UInt8):Lib.hasSuffix l [105]=true↔1<=l.length/\bat l (l.length - 1)=105:=by
 unfold Lib.hasSuffix;rw [List.isSuffixOf_iff_suffix];constructor
 ·rintro⟨t,rfl⟩;simp [bat]
 ·rintro⟨h1,h2⟩;have hl:l≠[]:=List.length_pos_iff.1 h1;refine⟨l.dropLast,?_⟩;have h3:l[l.length - 1]=105:=by
   have e:bat l (l.length - 1)=(l[l.length - 1].toNat:Int):=by unfold bat;rw [O' Cs];rfl
   rw [e] at h2;exact (u8n _ 105 Ct).1 h2
  have:=List.dropLast_concat_getLast hl;rw [List.getLast_eq_getElem,h3] at this;exact this
theorem ZQ8 (l:List UInt8):yE l=KQ5 l:=by
 unfold yE KQ5;have hr:=FQ7 l;by_cases hi:BQ5 l=true
 ·rw [Bb hi] at hr ⊢;rw [hr];simp
 rw [Bc hi] at hr ⊢;by_cases hf:DQ4 l=true
 ·rw [Bb hf] at hr ⊢;rw [hr];simp
 rw [Bc hf] at hr ⊢;rw [hr];simp only [ne_eq,not_true_eq_false,Bf];generalize ht:l.take (l.length - 1)=t;have hlt:t.length=l.length - 1:=by rw [<- ht,List.length_take];omega
 have h0:=FQ7 t;have hreal:¬ CJ t=0↔(BQ5 t=true∨DQ4 t=true):=by
  rw [h0];by_cases a:BQ5 t=true
  ·simp [a]
  ·by_cases b:DQ4 t=true <;> simp [a,b]
 have hrow:=zQ4 10 Cs t;by_cases hs:Lib.hasSuffix l [105]=true
 ·rw [Bb hs];have:=(tQ7 l).1 hs;by_cases h1:1 < l.length
  ·have hiff:(¬ CJ t=0∨¬ t=[]/\aC 10 t=t.length)↔(1 < l.length/\bat l (l.length - 1)=105/\(BQ5 t=true∨DQ4 t=true∨rowR 10 t=true)):=by
    rw [hreal,hrow];constructor
    ·rintro ((h|h)|h)
     ·exact⟨h1,this.2,.inl h⟩
     ·exact⟨h1,this.2,.inr (.inl h)⟩
     ·exact⟨h1,this.2,.inr (.inr h)⟩
    ·rintro⟨_,_,h|h|h⟩
     ·exact .inl (.inl h)
     ·exact .inl (.inr h)
     ·exact .inr h
   by_cases hc:(¬ CJ t=0∨¬ t=[]/\aC 10 t=t.length)
   ·rw [Bb hc,Bb (hiff.1 hc)]
   ·rw [Bc hc,Bc (fun h=>hc (hiff.2 h))]
  ·have ht0:t=[]:=List.length_eq_zero_iff.1 Cs;subst ht0;rw [Bc (by rintro (h|h);exact h Ct;exact h.1 rfl),Bc Cs]
 ·rw [Bc hs,Bc ?_];rintro⟨h1,h2,_⟩;exact hs ((tQ7 l).2 ⟨Cs,h2⟩)
end Num
