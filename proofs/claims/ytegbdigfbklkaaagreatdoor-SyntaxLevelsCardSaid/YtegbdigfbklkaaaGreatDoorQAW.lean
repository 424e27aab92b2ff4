import Derived.Test.YtegbdigfbklkaaaGreatDoorQAV
import Derived.Test.YtegbdigfbklkaaaGreatDoorQAP
namespace Go.Proofs.YtegbdigfbklkaaaGreatDoor
set_option linter.all false
set_option maxHeartbeats 40000000
set_option maxRecDepth 100000
section
open Go.RowKit
variable {w:World}
def partOk (p:Grd.Pt):Bool:=!decide (68 < (p.k.toNat:Int))&&!decide (p.n < (arityI p.k.toNat).1)&&!(decide ((arityI p.k.toNat).1 < p.n)&&!(arityI p.k.toNat).2)&&spellB p.k.toNat p.w
def checkL (l:List Grd.Pt):Bool:=Grd.wellL (l.map Grd.Pt.n)&&l.all partOk
theorem check_cs (x1 x2 x3 more sp rest R:Bool) (h:((!x1&&!x2&&!(x3&&!more)&&sp)&&rest)=R):x1=true∧R=false∨x1=false∧x2=true∧R=false∨x1=false∧x2=false∧x3=true∧more=false∧R=false∨x1=false∧x2=false∧x3=true∧more=true∧(sp&&rest)=R∨x1=false∧x2=false∧x3=false∧(sp&&rest)=R:=by
 subst h
 cases x1 <;> cases x2 <;> cases x3 <;> cases more <;> simp
theorem tcheck_walk (a:Option Addr) (cap:Nat) (l:List Grd.Pt) (hl:l.length≤1000000000) (h:Grd.PartsAt w a l) (hw:∀ p∈l,p.w.length≤65536) (hT:Tabs w) :
  Calls Tryz.prog 8 #[.slice a l.length cap] w (fun e w'=>e=.returned (.int .i64 (if checkL l then 0 else 8))∧Below w.heap.size w w'):=by
 have hWl:=Grd.Well_gen a cap l w (by omega) h
 have hC:checkL l=(Grd.wellL (l.map Grd.Pt.n)&&l.all partOk):=rfl
 rw [hC]
 clear hC
 generalize Grd.wellL (l.map Grd.Pt.n)=wl at *
 have HT:=Lib.hid hT
 have HP:=Lib.hid h
 clear hT h
 cases wl with
 | false =>
  rw [Bool.false_and,if_neg (by simp)]
  go_enter Tryz.func8,Tryz.ntmps8
  go_wp2_with (go_at_call 18;refine hWl.mono ?_;rintro e w1 ⟨rfl,hb1⟩)
  go_ret
  exact⟨rfl,hb1⟩
 | true =>
 rw [Bool.true_and]
 obtain⟨R,hRR⟩:∃ R,R=l.all partOk:=⟨_,rfl⟩
 rw [← hRR]
 have HRR:=Lib.hid hRR
 obtain⟨Z,hZ⟩:∃ Z:Int,Z=if R=true then 0 else 8:=⟨_,rfl⟩
 rw [← hZ]
 have HZ:=Lib.hid hZ
 clear hRR hZ
 go_enter Tryz.func8,Tryz.ntmps8
 go_wp2_with (go_at_call 18;refine hWl.mono ?_;rintro e w1 ⟨rfl,hb1⟩)
 go_loopg [12] l.length (fun j v12 wr=>∃ i:Nat,v12=.int .i64 (i:Int)∧i+j=l.length∧Below w.heap.size w wr∧(l.drop i).all partOk=R)
 case atStart=>exact⟨0,rfl,by omega,hb1,HRR.out.symm⟩
 case round =>
  obtain⟨i,rfl,hj,hB,hR⟩:=hrel
  by_cases hi:i < l.length
  ·have d0:decide ((i:Int) < (l.length:Int))=true:=by simpa using hi
   obtain⟨p,hp⟩:∃ p,l[i]?=some p:=⟨l[i],List.getElem?_eq_getElem hi⟩
   have hpw:=hw p (List.mem_of_getElem? hp)
   rcases HP.out with he|⟨b,off,hab,hbl,hcl⟩
   ·rw [he] at hi;exact absurd hi (by simp)
   subst hab
   obtain⟨y0,y1,y2⟩:=hcl i p hp
   have z0:=(hB.cell (p:=⟨b,off+i*3,none⟩) hbl).trans y0
   have z1:=(hB.cell (p:=⟨b,off+i*3+1,none⟩) hbl).trans y1
   have z2:=(hB.cell (p:=⟨b,off+i*3+2,none⟩) hbl).trans y2
   have hdr:l.drop i=p::l.drop (i+1):=by
    rw [List.getElem?_eq_getElem hi] at hp
    cases hp
    exact List.drop_eq_getElem_cons hi
   rw [hdr,List.all_cons] at hR
   have hnw:=heap_alloc_new wr (Obj.cells #[.int .u8 (p.k.toNat:Int),.int .i64 p.n,.string ⟨p.w.toArray⟩] 34)
   obtain⟨t0,t1,t2,_⟩:=three_cells hnw
   have hB4:=hB.alloc hB.size (Obj.cells #[.int .u8 (p.k.toNat:Int),.int .i64 p.n,.string ⟨p.w.toArray⟩] 34)
   have hAr:=fun w=>arity_walk (w:=w) (p.k.toNat:Int)
   have hSp:=fun w hT=>spelt_walk (w:=w) (p.k.toNat:Int) p.w hpw hT
   have hok:partOk p=(!decide (68 < (p.k.toNat:Int))&&!decide (p.n < (arityI p.k.toNat).1)&&!(decide ((arityI p.k.toNat).1 < p.n)&&!(arityI p.k.toNat).2)&&spellB p.k.toNat p.w):=rfl
   rw [hok] at hR
   generalize arityI p.k.toNat=ar at *
   generalize spellB p.k.toNat p.w=sp at *
   obtain⟨least,more⟩:=ar
   simp only [] at hR hAr
   have hcs:decide (68 < (p.k.toNat:Int))=true∧R=false∨decide (68 < (p.k.toNat:Int))=false∧decide (p.n < least)=true∧R=false∨decide (68 < (p.k.toNat:Int))=false∧decide (p.n < least)=false∧decide (least < p.n)=true∧more=false∧R=false∨decide (68 < (p.k.toNat:Int))=false∧decide (p.n < least)=false∧decide (least < p.n)=true∧more=true∧(sp&&(l.drop (i+1)).all partOk)=R∨decide (68 < (p.k.toNat:Int))=false∧decide (p.n < least)=false∧decide (least < p.n)=false∧(sp&&(l.drop (i+1)).all partOk)=R:=by
    exact check_cs _ _ _ _ _ _ _ hR
   have HB4:=Lib.hid hB4
   clear hR hok hdr hp hcl y0 y1 y2 hB4 hB
   rcases hcs with ⟨d1,hr⟩|⟨d1,d2,hr⟩|⟨d1,d2,d3,rfl,hr⟩|⟨d1,d2,d3,rfl,hr⟩|⟨d1,d2,d3,hr⟩
   iterate 3
    ·have HH:=Lib.hid hr
     clear hr
     go_wp2_with (go_at_call 19;refine (hAr _).mono ?_;rintro e w5 ⟨rfl,hw5⟩;replace hw5:=hw5.symm;subst hw5)
     go_ret
     exact⟨by rw [HZ.out,HH.out];rfl,HB4.out⟩
   all_goals
    cases sp with
    | true =>
     have HH:=Lib.hid hr
     clear hr
     go_wp2_with (first|(go_at_call 19;refine (hAr _).mono ?_;rintro e w5 ⟨rfl,hw5⟩;replace hw5:=hw5.symm;subst hw5)|(go_at_call 20;refine (hSp _ (HT.out.below HB4.out)).mono ?_;rintro e w6 ⟨rfl,hb6⟩))
     go_roundg (gk - 1)
     case measure=>omega
     case rel=>exact⟨i+1,by simp,by omega,bthen HB4.out hb6,by have:=HH.out;rw [Bool.true_and] at this;exact this⟩
    | false =>
     have HH:=Lib.hid hr
     clear hr
     go_wp2_with (first|(go_at_call 19;refine (hAr _).mono ?_;rintro e w5 ⟨rfl,hw5⟩;replace hw5:=hw5.symm;subst hw5)|(go_at_call 20;refine (hSp _ (HT.out.below HB4.out)).mono ?_;rintro e w6 ⟨rfl,hb6⟩))
     go_ret
     exact⟨by rw [HZ.out,← HH.out];rfl,bthen HB4.out hb6⟩
  ·have d0:decide ((i:Int) < (l.length:Int))=false:=by simpa using hi
   rw [List.drop_of_length_le (by omega)] at hR
   have HH:=Lib.hid hR
   have HB:=Lib.hid hB
   clear hR hB
   go_wp2_with fail
   go_ret
   exact⟨by rw [HZ.out,← HH.out];rfl,HB.out⟩
end
end Go.Proofs.YtegbdigfbklkaaaGreatDoor
