import Derived.Test.YtcjmpafkcmlhbaaGreatDoorQAL
import Derived.Test.YtcjmpafkcmlhbaaGreatDoorQBV
import Derived.Test.YtcjmpafkcmlhbaaGreatDoorQBU
import Derived.Test.YtcjmpafkcmlhbaaGreatDoorZRA
import Derived.Test.YtcjmpafkcmlhbaaGreatDoorQBW
namespace Go.Proofs.YtcjmpafkcmlhbaaGreatDoor
set_option linter.all false
set_option maxHeartbeats 40000000
set_option maxRecDepth 100000
section
open Grd (leastL levL Fo gl ptsOf guardO)
variable {E:Env}
theorem treeT_tg {goal:UInt8}{t:Tr}{m:Nat} (h:treeT E goal=.ok t m):Tg E t:=by
 obtain⟨_,n,_,hs,_⟩:=treeT_ok h
 refine ((spec_g E _).t _ _ _ ?_ _ _ hs).1
 unfold goalF
 repeat' split
 all_goals trivial
mutual
theorem tg_pair (s:List UInt8) (l:List Tk) (p p':List Int):∀ t:Tr,Tg ⟨s,l,p⟩ t→Tg ⟨s,l,p'⟩ t
 | .mk k wd f t ks,h=>by
  simp only [Tg] at h ⊢
  exact tgs_pair s l p p' k _ ks 0 h
theorem tgs_pair (s:List UInt8) (l:List Tk) (p p':List Int) (k:UInt8) (w:List UInt8):∀ (ks:List Tr) (n:Nat),Tgs ⟨s,l,p⟩ k w n ks→Tgs ⟨s,l,p'⟩ k w n ks
 | [],_,_=>by simp only [Tgs]
 | x::r,n,h=>by
  simp only [Tgs] at h ⊢
  exact⟨h.1,tg_pair s l p p' x h.2.1,tgs_pair s l p p' k w r (n+1) h.2.2⟩
end
mutual
def foT (E:Env):Tr→Fo→Fo
 | .mk k wd _ _ ks,r=>.cons ⟨k,ks.length,partW E k wd⟩ (foL E ks) r
def foL (E:Env):List Tr→Fo
 | []=>.nil
 | t::ts=>foT E t (foL E ts)
end
theorem fo_count:∀ ks:List Tr,(foL E ks).count=ks.length
 | []=>rfl
 | .mk k wd f t ks::r=>by simp only [foL,foT,Fo.count,fo_count r,List.length_cons]
mutual
theorem fo_flat:∀ (t:Tr) (r:Fo),(foT E t r).flat=(parts E t).map ptG++r.flat
 | .mk k wd f t ks,r=>by simp only [foT,Fo.flat,parts,foL_flat ks,List.map_cons,List.cons_append];rfl
theorem foL_flat:∀ ks:List Tr,(foL E ks).flat=(partsL E ks).map ptG
 | []=>rfl
 | t::ts=>by simp only [foL,fo_flat t,foL_flat ts,partsL,List.map_append]
end
mutual
theorem fo_good:∀ (t:Tr) (r:Fo),r.good→(foT E t r).good
 | .mk k wd f t ks,r,h=>by simp only [foT,Fo.good,fo_count];exact⟨trivial,foL_good ks,h⟩
theorem foL_good:∀ ks:List Tr,(foL E ks).good
 | []=>trivial
 | t::ts=>fo_good t _ (foL_good ts)
end
mutual
theorem gl_t:∀ (t:Tr),Tg E t→∀ (n:Int) (i:Nat),ptsOf (gl (foL E t.kids) ⟨t.kind,n,partW E t.kind t.word⟩ 0 i)=(foL E t.kids).flat
 | .mk k wd f t ks,h,n,i=>by
  simp only [Tg] at h
  exact gl_l ks k _ 0 h n i
theorem gl_l:∀ (ks:List Tr) (k:UInt8) (w:List UInt8) (nth:Nat),Tgs E k w nth ks→∀ (n:Int) (i:Nat),ptsOf (gl (foL E ks) ⟨k,n,w⟩ nth i)=(foL E ks).flat
 | [],_,_,_,_,_,_=>rfl
 | t::ts,k,w,nth,h,n,i=>by
  simp only [Tgs] at h
  obtain⟨h1,h2,h3⟩:=h
  have e1:=gl_t t h2
  have e2:=gl_l ts k w (nth+1) h3 n
  obtain⟨k',wd',f',t',ks'⟩:=t
  have h1:¬ levL k' (partW E k' wd') < leastL k w nth:=by have h1:leastL k w nth≤levL k' (partW E k' wd'):=h1;omega
  show ptsOf (gl (.cons ⟨k',ks'.length,partW E k' wd'⟩ (foL E ks') (foL E ts)) ⟨k,n,w⟩ nth i)=(Fo.cons ⟨k',ks'.length,partW E k' wd'⟩ (foL E ks') (foL E ts)).flat
  simp only [gl,Fo.flat,if_neg h1,List.nil_append,ptsOf,List.map_cons,List.map_append]
  have e1:ptsOf (gl (foL E ks') ⟨k',ks'.length,partW E k' wd'⟩ 0 (i+1))=(foL E ks').flat:=e1 ks'.length (i+1)
  rw [← e1,← e2 (i+1+(foL E ks').size)]
  rfl
end
theorem read_tight {goal:UInt8}{s:List UInt8}{l:List Tk}{t:Tr}{N:List UInt8→NestR} (h:readT N goal s=.ok l t) :
  ∃ (q:Grd.Pt) (k:Fo),(parts ⟨s,l,[]⟩ t).map ptG=q::k.flat∧(k.count:Int)=q.n∧k.good∧ptsOf (guardO q k)=(parts ⟨s,l,[]⟩ t).map ptG:=by
 obtain⟨p,m,_,ht⟩:=readT_ok h
 have hg:=tg_pair s l p [] t (treeT_tg ht)
 obtain⟨k,wd,f,t',ks⟩:=t
 have e:(parts ⟨s,l,[]⟩ (.mk k wd f t' ks)).map ptG=(⟨k,ks.length,partW ⟨s,l,[]⟩ k wd⟩:Grd.Pt)::(foL ⟨s,l,[]⟩ ks).flat:=by
  simp only [parts,List.map_cons,foL_flat];rfl
 refine⟨⟨k,ks.length,partW ⟨s,l,[]⟩ k wd⟩,foL ⟨s,l,[]⟩ ks,e,by rw [fo_count],foL_good ks,?_⟩
 rw [e]
 show _::ptsOf (gl (foL ⟨s,l,[]⟩ ks) _ 0 1)=_
 have e1:ptsOf (gl (foL ⟨s,l,[]⟩ ks) ⟨k,ks.length,partW ⟨s,l,[]⟩ k wd⟩ 0 1)=(foL ⟨s,l,[]⟩ ks).flat:=gl_t (.mk k wd f t' ks) hg ks.length 1
 rw [e1]
end
section
open Go.RowKit
variable {w:World}
theorem parts_few' {goal:UInt8}{s:List UInt8}{l:List Tk}{t:Tr} (h:readT nestN goal s=.ok l t):(parts ⟨s,l,[]⟩ t).length≤100000000:=by
 have h1:=readT_cnt nest_law h
 rw [parts_len]
 omega
theorem nestN_semi' {s:List UInt8}{l:List Tk}{p:List Int} (h:nestN s=.ok l p):semiR s=.ok l:=by
 unfold nestN at h
 split at h
 ·cases h
 ·rename_i l2 p2 m hW
  cases h
  unfold nestWR at hW
  split at hW
  ·cases hW
  ·rename_i l3 hS
   obtain⟨h1,h2,h3⟩:=semiR_ok hS
   obtain⟨rfl,_⟩:=nestF_ok s l3 l3 0 _ _ _ _ hW (by simp) (by omega) (fun x hx=>by rw [List.eq_of_mem_replicate hx];decide) (fun x hx=>by cases hx) (by omega)
   exact hS
theorem read_word {goal:UInt8}{s:List UInt8}{l:List Tk}{t:Tr} (h:readT nestN goal s=.ok l t):s.length≤65536:=by
 obtain⟨p,m,hN,ht⟩:=readT_ok h
 exact (semiR_ok (nestN_semi' hN)).2.2
theorem reads_law (n:UInt8) (s:List UInt8) (hT:Tabs w):Calls Tryz.prog 3 #[.int .u8 (n.toNat:Int),.string ⟨s.toArray⟩] w (fun e w'=>e=.returned (.bool true)∧Below w.heap.size w w'):=by
 obtain⟨gl,hgl⟩:∃ gl,gl=goalB n:=⟨_,rfl⟩
 have HM0:=fun w h=>term_any gl s w h
 have hgn:(gl.toNat:Int)=1+(n.toNat:Int) % 4:=by rw [hgl];exact goalB_nat n
 have HGN:=Lib.hid hgn
 obtain⟨r,hr⟩:∃ r,r=readT nestN gl s:=⟨_,rfl⟩
 rw [← hr] at HM0
 have HR:=Lib.hid hr
 obtain⟨er,her⟩:∃ er,er=(errR r).1:=⟨_,rfl⟩
 obtain⟨ea,hea⟩:∃ ea,ea=(errR r).2:=⟨_,rfl⟩
 rw [← her,← hea] at HM0
 have HE:=Lib.hid (And.intro her hea)
 have HM:=Lib.hid HM0
 have HT:=Lib.hid hT
 obtain⟨mx,hmx⟩:=hT.2
 have hn:=n.toNat_lt
 clear hgl hT hr her hea HM0 hgn
 go_enter Tryz.func3,Tryz.ntmps3
 go_upto_region 2 with (go_at_call 9;rw [← HGN.out];refine (HM.out _ HT.out).mono ?_;rintro e w2 ⟨pa1,pn1,pc1,rfl,hq1,hb1⟩)
 obtain⟨OF,hOF⟩:∃ O,O=Obj.cells #[.int .i64 (er:Int),.int .i64 (ea:Int)] 25 (0,0):=⟨_,rfl⟩
 rw [← hOF]
 have A1:=heap_alloc_new w2 OF
 have bA:=(Below.refl w2.heap.size w2).alloc (Nat.le_refl _) OF
 have BA:=hb1.trans (bA.mono hb1.size)
 have HQ1:=Lib.hid (And.intro hq1 bA)
 clear hq1 hb1 bA
 generalize w2.alloc OF=wA at *
 rw [hOF] at A1
 obtain⟨f1,f2,_,_⟩:=two_cells A1
 clear A1 hOF
 have HMX:=Lib.hid (fun w' (hb:Below wA.heap.size wA w')=>keepCell (bthen BA hb) hmx)
 have HX:=Lib.hid (fun w h=>Grd.fixed_any mx w h)
 have HBA:=Lib.hid BA
 have hbl:=Below.refl wA.heap.size wA
 clear BA hmx
 cases r with
 | bad e0 a0 =>
  obtain⟨h1,h2⟩:=HE.out
  have hne:e0≠0:=readT_ne nest_law HR.out.symm
  have h3:er=e0:=h1
  have h4:ea=a0:=h2
  subst h3;subst h4
  have k1:(er==0)=false:=by simpa using hne
  have k2:((er:Int)==0)=false:=by simp;omega
  have k3:(er != 0)=true:=by simpa using hne
  have k4:((er:Int) != 0)=true:=by simp;omega
  clear h1 h2 hne
  go_wp2_with (go_at_call 10;refine (HX.out _ (HMX.out _ hbl)).mono ?_;rintro e w9 ⟨rfl,hb9⟩;replace f1:=keepCell hb9 f1;replace f2:=keepCell hb9 f2;replace hbl:=bthen hbl hb9;clear hb9)
  go_ret
  exact⟨rfl,bthen HBA.out hbl⟩
 | ok l t =>
  obtain⟨h1,h2⟩:=HE.out
  have h3:er=0:=h1
  have h4:ea=0:=h2
  subst h3;subst h4
  clear h1 h2
  go_upto_region 4 with (go_at_call 10;refine (HX.out _ (HMX.out _ hbl)).mono ?_;rintro e w9 ⟨rfl,hb9⟩;replace f1:=keepCell hb9 f1;replace f2:=keepCell hb9 f2;replace hbl:=bthen hbl hb9;clear hb9)
  clear f1 f2
  obtain⟨q1,bA⟩:=HQ1.out
  have q1:w2.ownsRow w.heap.size 39 3 (.slice pa1 pn1 pc1) (parts ⟨s,l,[]⟩ t).length (pt3sV (parts ⟨s,l,[]⟩ t)):=q1
  have r1:=own_fr q1 ((Fr.below (X:=[]) bA).trans (Fr.below hbl)) (by simp)
  have e1:pn1=(parts ⟨s,l,[]⟩ t).length:=by obtain⟨_,_,e⟩:=Grd.own_shape q1;cases e;rfl
  have hcnt:((parts ⟨s,l,[]⟩ t).map ptG).length≤1099511627776:=by
   have h1:=parts_few' HR.out.symm
   rw [List.length_map]
   omega
  have hw:∀ q∈(parts ⟨s,l,[]⟩ t).map ptG,q.w.length≤1125899906842624:=by
   intro q hq
   obtain⟨x,hx,rfl⟩:=List.mem_map.1 hq
   have:=words_le ⟨s,l,[]⟩ (read_word HR.out.symm) t x hx
   show x.word.length≤_
   omega
  have hwell:Grd.wellL (((parts ⟨s,l,[]⟩ t).map ptG).map Grd.Pt.n)=true:=by
   have h:=wellL_tree ⟨s,l,[]⟩ t
   rw [kidsI] at h
   rw [List.map_map]
   exact h
  obtain⟨q,k,hqk,hkc,hkg,htight⟩:=read_tight HR.out.symm
  subst e1
  have p1:=parts_at r1 rfl
  have hlen:(parts ⟨s,l,[]⟩ t).length=((parts ⟨s,l,[]⟩ t).map ptG).length:=by rw [List.length_map]
  have HP:=Grd.Put_ok pa1 pc1 q k mx ((parts ⟨s,l,[]⟩ t).map ptG) w9 hcnt hw p1 (HMX.out _ hbl) hwell hqk hkc hkg
  have HPL:=Lib.hid (And.intro p1 (And.intro hcnt (And.intro htight hlen)))
  rw [← hlen] at HP
  clear q1 bA r1 hcnt hw hwell hqk hkc hkg htight p1
  generalize hL:(parts ⟨s,l,[]⟩ t).map ptG=L at *
  generalize (parts ⟨s,l,[]⟩ t).length=np at *
  subst hlen
  go_upto_region 5 with (go_at_call 11;refine HP.mono ?_;rintro e w10 ⟨hb10,vo,rfl,hown⟩)
  rw [HPL.out.2.2.1] at hown
  obtain⟨ma,mcap,rfl,hMA⟩:=Grd.own_parts hown
  have hS:=same_walk (w:=w10) pa1 ma pc1 mcap L HPL.out.2.1 (HPL.out.1.later hb10) hMA
  have HS:=Lib.hid hS
  have HEND:=Lib.hid (bthen HBA.out (bthen hbl hb10))
  clear hS hown hMA hb10 hbl HP
  go_wp2_with (go_at_call 12;refine (HS.out).mono ?_;rintro e w13 ⟨rfl,hb9⟩;have HEND:=Lib.hid (bthen HEND.out hb9);clear hb9)
  go_ret
  exact⟨rfl,HEND.out⟩
end
end Go.Proofs.YtcjmpafkcmlhbaaGreatDoor
