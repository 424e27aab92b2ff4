import Derived.Test.YtcjmpafkcmlhbaaGreatDoorShelf
import Derived.Test.YtcjmpafkcmlhbaaGreatDoorQAG
import Derived.WalkKit
import Derived.WalkSpells
import Derived.WalkLawsBesides
import Derived.Deep.QuietTactic
import Derived.BigQuiet
import Derived.Lib.Hide
import Derived.Test.YtcjmpafkcmlhbaaGreatDoorQAH
namespace Go.Proofs.YtcjmpafkcmlhbaaGreatDoor
set_option linter.all false
set_option maxHeartbeats 40000000
set_option maxRecDepth 100000
namespace Grd
open Go.RowKit
def wordsOf:Nat→List UInt8
 | 0=>[32,124,124,32]
 | 1=>[32,38,38,32]
 | 2=>[32,61,61,32,33,61,32,60,32,60,61,32,62,32,62,61,32]
 | 3=>[32,43,32,45,32,124,32,94,32]
 | _=>[32,42,32,47,32,37,32,60,60,32,62,62,32,38,32,38,94,32]
def hitB (w:List UInt8) (i:Nat):Bool:=decide (w≠[])&&!decide (0≤Lib.indexByte w 32)&&Lib.contains (wordsOf i) (32::(w++[32]))
def levB (w:List UInt8):Nat→Nat→Int
 | 0,_=>1
 | f+1,i=>if hitB w i then (i:Int)+1 else levB w f (i+1)
def levL (k:UInt8) (w:List UInt8):Int :=
 if (k.toNat:Int)=36∨(k.toNat:Int)=35 then 6 else if (k.toNat:Int)=37 then levB w 5 0 else 7
def leastL (k:UInt8) (w:List UInt8) (nth:Int):Int :=
 if k=37 then (if nth=0 then levL k w else if nth=1 then levL k w+1 else 0)
 else if k=36∨k=35 then 6
 else if k=29∨k=30∨k=31∨k=32∨k=33∨k=34 then (if nth=0 then 7 else 0)
 else if k=61 then (if nth=2 then 7 else 0) else 0
theorem levB_bd (w:List UInt8):∀ f i,f+i≤5→1≤levB w f i∧levB w f i≤6:=by
 intro f
 induction f with
 | zero=>intro i _;simp [levB]
 | succ f ih =>
  intro i h;rw [levB];split
  ·omega
  ·exact ih (i+1) (by omega)
theorem lev_bd (k:UInt8) (w:List UInt8):1≤levL k w∧levL k w≤7:=by
 unfold levL;have:=levB_bd w 5 0 (by omega);split
 ·omega
 ·split <;> omega
inductive Fo where
 | nil:Fo
 | cons (p:Pt) (kids rest:Fo):Fo
def Fo.flat:Fo→List Pt
 | .nil=>[]
 | .cons p k r=>p::(k.flat++r.flat)
def Fo.size:Fo→Nat
 | .nil=>0
 | .cons _ k r=>1+k.size+r.size
def Fo.count:Fo→Nat
 | .nil=>0
 | .cons _ _ r=>r.count+1
def Fo.good:Fo→Prop
 | .nil=>True
 | .cons p k r=>(k.count:Int)=p.n∧k.good∧r.good
theorem Fo.flat_len:∀ f:Fo,f.flat.length=f.size
 | .nil=>rfl
 | .cons p k r=>by simp [Fo.flat,Fo.size,Fo.flat_len k,Fo.flat_len r];omega
def paren:Pt:=⟨28,1,[]⟩
def gl:Fo→Pt→Nat→Nat→List (Pt × Option Nat)
 | .nil,_,_,_=>[]
 | .cons q k r,p,nth,i=>(if levL q.k q.w < leastL p.k p.w nth then [(paren,none)] else [])++(q,some i)::(gl k q 0 (i+1)++gl r p (nth+1) (i+1+k.size))
def ptsOf (o:List (Pt × Option Nat)):List Pt:=o.map Prod.fst
def numOf (fr:List Int) (x:Option Nat):Int:=match x with|none=>-1|some i=>fr.getD i 0
def numsOf (fr:List Int) (o:List (Pt × Option Nat)):List Int:=o.map fun x=>numOf fr x.2
theorem gl_len:∀ (f:Fo) (p:Pt) (nth i:Nat),(gl f p nth i).length≤2*f.size
 | .nil,_,_,_=>by simp [gl]
 | .cons q k r,p,nth,i=>by
  have h1:=gl_len k q 0 (i+1)
  have h2:=gl_len r p (nth+1) (i+1+k.size)
  simp only [gl,Fo.size,List.length_append,List.length_cons]
  split <;> simp <;> omega
def guardO (q:Pt) (k:Fo):List (Pt × Option Nat):=(q,some 0)::gl k q 0 1
end Grd
namespace Grd
open Go.RowKit
theorem ret_val {a b:Value} (h:a=b):Ending.returned a=.returned b:=by rw [h]
theorem ret_int {k:IntKind}{a b:Int} (h:a=b):Ending.returned (.int k a)=.returned (.int k b):=by rw [h]
theorem size_mk (l:List UInt8):(ByteArray.mk l.toArray).size=l.length:=by simp [ByteArray.size]
attribute [simp] ByteArray.extract_mk ByteArray.mk_append_mk
theorem has_one (l:List UInt8) (w:World) :
  Calls Tryz.prog 36 #[.string ⟨l.toArray⟩,.string ⟨#[32]⟩] w fun e w'=>e=.returned (.bool (decide (0≤Lib.indexByte l 32)))∧w=w' :=
 (Tryz.strings_Contains_one ⟨l.toArray⟩ 32 w).mono fun _ _ ⟨h,h2⟩=>⟨h,h2.symm⟩
theorem has_any (s l:List UInt8) (m:Int) (w:World) (hs:s.length < 4294967281) (hm:w.cell? ⟨0,0,none⟩=some (.int .i64 m)) :
  Calls Tryz.prog 36 #[.string ⟨s.toArray⟩,.string ⟨l.toArray⟩] w fun e w'=>e=.returned (.bool (Lib.contains s l))∧w=w' :=
 (Tryz.strings_Contains ⟨s.toArray⟩ ⟨l.toArray⟩ m w (by rw [size_mk];exact hs) hm).mono fun e w' ⟨h,h2⟩=>⟨h,h2.symm⟩
theorem ix5 (i:Nat) (hi:i < 5) (w:World):(Instr.index 86 (.agg #[.string ⟨#[32,124,124,32]⟩,.string ⟨#[32,38,38,32]⟩,.string ⟨#[32,61,61,32,33,61,32,60,32,60,61,32,62,32,62,61,32]⟩,.string ⟨#[32,43,32,45,32,124,32,94,32]⟩,.string ⟨#[32,42,32,47,32,37,32,60,60,32,62,62,32,38,32,38,94,32]⟩]) (.int .i64 i)).run Tryz.prog w=.ok (.string ⟨(wordsOf i).toArray⟩) w:=by
 rcases (show i=0∨i=1∨i=2∨i=3∨i=4 from by omega) with rfl|rfl|rfl|rfl|rfl <;> kernel_rfl
theorem words_len (i:Nat):(wordsOf i).length < 4294967281:=by
 unfold wordsOf;split <;> decide
theorem lev_step (w:List UInt8) (i:Nat) (h:i < 5):levB w (5 - i) i=if hitB w i then (i:Int)+1 else levB w (5 - (i+1)) (i+1):=by
 obtain⟨f,hf⟩:∃ f,5 - i=f+1:=⟨4 - i,by omega⟩
 rw [hf,levB,show 5 - (i+1)=f from by omega]
theorem level_any (p:Pt) (m:Int) (w:World) (hw:p.w.length≤1125899906842624) (hm:w.cell? ⟨0,0,none⟩=some (.int .i64 m)) :
  Calls Tryz.prog 23 #[.agg #[.int .u8 p.k.toNat,.int .i64 p.n,.string ⟨p.w.toArray⟩]] w fun e w'=>e=.returned (.int .i64 (levL p.k p.w))∧Below w.heap.size w w':=by
 obtain⟨k,n,l⟩:=p
 simp only [] at hw
 have hb:Below w.heap.size w (w.alloc (Obj.cells #[.int .u8 k.toNat,.int .i64 n,.string ⟨l.toArray⟩] 39)):=(Below.refl _ _).alloc (Nat.le_refl _) _
 have h0:=World.block_lt_of_cell? w _ hm
 have hm1:(w.alloc (Obj.cells #[.int .u8 k.toNat,.int .i64 n,.string ⟨l.toArray⟩] 39)).cell? ⟨0,0,none⟩=some (.int .i64 m):=by
  rw [hb.cell h0];exact hm
 by_cases h36:(k.toNat:Int)=36
 ·have b1:((k.toNat:Int)==36)=true:=by simp [h36]
  have H:=Lib.hid h36
  clear h36
  go_enter Tryz.func23,Tryz.ntmps23
  go_wp2_with fail
  go_ret
  exact⟨ret_int (by unfold levL;rw [if_pos (.inl H.out)]),hb⟩
 have b1:((k.toNat:Int)==36)=false:=by simp [h36]
 by_cases h35:(k.toNat:Int)=35
 ·have b2:((k.toNat:Int)==35)=true:=by simp [h35]
  have H:=Lib.hid h35
  clear h35
  go_enter Tryz.func23,Tryz.ntmps23
  go_wp2_with fail
  go_ret
  exact⟨ret_int (by unfold levL;rw [if_pos (.inr H.out)]),hb⟩
 have b2:((k.toNat:Int)==35)=false:=by simp [h35]
 by_cases h37:(k.toNat:Int)=37
 ·have b3:((k.toNat:Int)==37)=true:=by simp [h37]
  have hfin:levL k l=levB l 5 0:=by unfold levL;rw [if_neg (by omega),if_pos h37]
  have Hfin:=Lib.hid hfin
  clear h36 h35 h37 hfin
  go_enter Tryz.func23,Tryz.ntmps23
  go_wp2_with fail
  go_loop [13] (fun u=>∃ i:Nat,i≤5∧u=.int .i64 i∧levB l (5 - i) i=levB l 5 0) (fun u=>5 - (intOf u).toNat)
  case atStart=>exact⟨0,by omega,rfl,rfl⟩
  case round =>
   obtain⟨i,hi,rfl,hlv⟩:=hrel
   have HL:=Lib.hid hlv
   clear hlv
   by_cases hlt:i < 5
   ·have hix:=fun w=>ix5 i hlt w
    have hst:=Lib.hid (lev_step l i hlt)
    have hwl:=words_len i
    have hca:=fun w hm=>has_any (wordsOf i) (32::(l++[32])) m w hwl hm
    have Hhit:Hid (hitB l i=(decide (l≠[])&&!decide (0≤Lib.indexByte l 32)&&Lib.contains (wordsOf i) (32::(l++[32])))):=rfl
    have HCA:=Lib.hid hca
    generalize Lib.contains (wordsOf i) (32::(l++[32]))=cc at *
    generalize wordsOf i=ww at *
    clear hca hwl
    by_cases hl:l=[]
    ·have hf:hitB l i=false:=by rw [Hhit.out,hl];rfl
     have HF:=Lib.hid hf
     subst hl
     clear hf
     go_wp2_with fail
     go_round
     case rel=>exact⟨i+1,by omega,by go_num,by rw [← HL.out,hst.out,HF.out];rfl⟩
     case measure=>simp [intOf];omega
    ·have he:l.isEmpty=false:=by simp [hl]
     by_cases hbl:0≤Lib.indexByte l 32
     ·have hf:hitB l i=false:=by rw [Hhit.out,decide_eq_true hbl];simp
      have HF:=Lib.hid hf
      clear hf
      go_wp2_with fail
      refine (has_one _ _).mono ?_;rintro e w1 ⟨rfl,rfl⟩
      go_wp2_with fail
      go_round
      case rel=>exact⟨i+1,by omega,by go_num,by rw [← HL.out,hst.out,HF.out];rfl⟩
      case measure=>simp [intOf];omega
     ·have hf:hitB l i=cc:=by rw [Hhit.out,decide_eq_false hbl,decide_eq_true hl];simp
      have HF:=Lib.hid hf
      have hd:decide (0≤Lib.indexByte l 32)=false:=decide_eq_false hbl
      clear hf hbl
      go_wp2_with fail
      refine (has_one _ _).mono ?_;rintro e w1 ⟨rfl,rfl⟩
      go_wp2_with fail
      refine (HCA.out _ hm1).mono ?_;rintro e w1 ⟨rfl,rfl⟩
      cases cc
      ·go_wp2_with fail
       go_round
       case rel=>exact⟨i+1,by omega,by go_num,by rw [← HL.out,hst.out,HF.out];rfl⟩
       case measure=>simp [intOf];omega
      ·go_wp2_with fail
       go_ret
       exact⟨ret_int (by rw [Hfin.out,← HL.out,hst.out,HF.out];rfl),hb⟩
   ·have:i=5:=by omega
    subst this
    go_wp2_with fail
    go_ret
    exact⟨ret_int (by rw [Hfin.out,← HL.out];rfl),hb⟩
 ·have b3:((k.toNat:Int)==37)=false:=by simp [h37]
  have hfin:levL k l=7:=by unfold levL;rw [if_neg (by omega),if_neg h37]
  have Hfin:=Lib.hid hfin
  clear h36 h35 h37 hfin
  go_enter Tryz.func23,Tryz.ntmps23
  go_wp2_with fail
  go_ret
  exact⟨ret_int (by rw [Hfin.out]),hb⟩
end Grd
namespace Grd
open Go.RowKit
theorem u8n (x:UInt8) (n:Nat) (h:n < 256):((x.toNat:Int)=(n:Int))↔x=UInt8.ofNat n:=by
 constructor
 ·intro e;apply UInt8.toNat_inj.1;rw [UInt8.toNat_ofNat'];have:x.toNat=n:=by omega
  rw [this,Nat.mod_eq_of_lt h]
 ·intro e;rw [e,UInt8.toNat_ofNat',Nat.mod_eq_of_lt h]
theorem level_b (p:Pt) (m:Int) (w:World) (hw:p.w.length≤1125899906842624) (hm:w.cell? ⟨0,0,none⟩=some (.int .i64 m)) :
  Calls Tryz.prog 23 #[.agg #[.int .u8 p.k.toNat,.int .i64 p.n,.string ⟨p.w.toArray⟩]] w fun e w'=>e=.returned (.int .i64 (levL p.k p.w))∧(1≤levL p.k p.w∧levL p.k p.w≤7)∧Below w.heap.size w w' :=
 (level_any p m w hw hm).mono fun _ _ ⟨h1,h2⟩=>⟨h1,lev_bd _ _,h2⟩
theorem least_any (p:Pt) (nth m:Int) (w:World) (hw:p.w.length≤1125899906842624) (hm:w.cell? ⟨0,0,none⟩=some (.int .i64 m)) :
  Calls Tryz.prog 118 #[.agg #[.int .u8 p.k.toNat,.int .i64 p.n,.string ⟨p.w.toArray⟩],.int .i64 nth] w fun e w'=>e=.returned (.int .i64 (leastL p.k p.w nth))∧Below w.heap.size w w':=by
 obtain⟨k,n,l⟩:=p
 simp only [] at hw
 have hb:Below w.heap.size w (w.alloc (Obj.cells #[.int .u8 k.toNat,.int .i64 n,.string ⟨l.toArray⟩] 39)):=(Below.refl _ _).alloc (Nat.le_refl _) _
 have h0:=World.block_lt_of_cell? w _ hm
 have hm1:(w.alloc (Obj.cells #[.int .u8 k.toNat,.int .i64 n,.string ⟨l.toArray⟩] 39)).cell? ⟨0,0,none⟩=some (.int .i64 m):=by
  rw [hb.cell h0];exact hm
 have hlev:=level_b ⟨k,n,l⟩ m (w.alloc (Obj.cells #[.int .u8 k.toNat,.int .i64 n,.string ⟨l.toArray⟩] 39)) hw hm1
 have HL:=Lib.hid hlev
 clear hlev
 by_cases h37:k=37
 ·subst h37
  by_cases n0:nth=0
  ·subst n0
   go_enter Tryz.func118,Tryz.ntmps118
   go_wp2_with fail
   refine HL.out.mono ?_;rintro e w1 ⟨rfl,hbd,hn⟩
   go_wp2_with fail
   go_ret
   exact⟨rfl,hb.trans (hn.mono (by simp))⟩
  have c0:(nth==0)=false:=by simp [n0]
  by_cases n1:nth=1
  ·subst n1
   go_enter Tryz.func118,Tryz.ntmps118
   go_wp2_with fail
   refine HL.out.mono ?_;rintro e w1 ⟨rfl,hbd,hn⟩
   obtain⟨hb1,hb2⟩:=hbd
   go_wp2_with fail
   go_ret
   exact⟨rfl,hb.trans (hn.mono (by simp))⟩
  ·have c1:(nth==1)=false:=by simp [n1]
   have hf:leastL 37 l nth=0:=by simp [leastL,n0,n1]
   have HF:=Lib.hid hf
   clear n0 n1 hf
   go_enter Tryz.func118,Tryz.ntmps118
   go_wp2_with fail
   go_ret
   exact⟨ret_int (by rw [HF.out]),hb⟩
 by_cases hsp:k=36∨k=35∨k=29∨k=30∨k=31∨k=32∨k=33∨k=34∨k=61
 ·clear h37
  by_cases n0:nth=0
  ·subst n0
   rcases hsp with rfl|rfl|rfl|rfl|rfl|rfl|rfl|rfl|rfl
   all_goals
    go_enter Tryz.func118,Tryz.ntmps118
    go_wp2_with fail
    go_ret
    exact⟨rfl,hb⟩
  by_cases n2:nth=2
  ·subst n2
   rcases hsp with rfl|rfl|rfl|rfl|rfl|rfl|rfl|rfl|rfl
   all_goals
    go_enter Tryz.func118,Tryz.ntmps118
    go_wp2_with fail
    go_ret
    exact⟨rfl,hb⟩
  have c0:(nth==0)=false:=by simp [n0]
  have c2:(nth==2)=false:=by simp [n2]
  have hf:leastL k l nth=if k=36∨k=35 then 6 else 0:=by
   rcases hsp with rfl|rfl|rfl|rfl|rfl|rfl|rfl|rfl|rfl <;> simp [leastL,n0,n2]
  have HF:=Lib.hid hf
  clear n0 n2 hf
  rcases hsp with rfl|rfl|rfl|rfl|rfl|rfl|rfl|rfl|rfl
  all_goals
   go_enter Tryz.func118,Tryz.ntmps118
   go_wp2_with fail
   go_ret
   exact⟨ret_int (by rw [HF.out];rfl),hb⟩
 ·have hf:leastL k l nth=0:=by simp only [not_or] at hsp;simp [leastL,h37,hsp]
  have HF:=Lib.hid hf
  have cs:∀ n:Nat,n < 256→k≠UInt8.ofNat n→((k.toNat:Int)==(n:Int))=false:=by
   intro n hn hne;rw [beq_eq_false_iff_ne];intro e;exact hne ((u8n k n hn).1 e)
  simp only [not_or] at hsp
  have d37:((k.toNat:Int)==37)=false:=cs 37 (by decide) h37
  have d36:((k.toNat:Int)==36)=false:=cs 36 (by decide) hsp.1
  have d35:((k.toNat:Int)==35)=false:=cs 35 (by decide) hsp.2.1
  have d29:((k.toNat:Int)==29)=false:=cs 29 (by decide) hsp.2.2.1
  have d30:((k.toNat:Int)==30)=false:=cs 30 (by decide) hsp.2.2.2.1
  have d31:((k.toNat:Int)==31)=false:=cs 31 (by decide) hsp.2.2.2.2.1
  have d32:((k.toNat:Int)==32)=false:=cs 32 (by decide) hsp.2.2.2.2.2.1
  have d33:((k.toNat:Int)==33)=false:=cs 33 (by decide) hsp.2.2.2.2.2.2.1
  have d34:((k.toNat:Int)==34)=false:=cs 34 (by decide) hsp.2.2.2.2.2.2.2.1
  have d61:((k.toNat:Int)==61)=false:=cs 61 (by decide) hsp.2.2.2.2.2.2.2.2
  clear hf cs hsp h37
  go_enter Tryz.func118,Tryz.ntmps118
  go_wp2_with fail
  go_ret
  exact⟨ret_int (by rw [HF.out]),hb⟩
end Grd
end Go.Proofs.YtcjmpafkcmlhbaaGreatDoor
