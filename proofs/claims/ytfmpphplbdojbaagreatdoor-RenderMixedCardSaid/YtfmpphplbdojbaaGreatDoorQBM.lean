import Derived.Test.YtfmpphplbdojbaaGreatDoorQBL
import Derived.Test.YtfmpphplbdojbaaGreatDoorQBJ
import Derived.Test.YtfmpphplbdojbaaGreatDoorQAF
import Derived.Test.YtfmpphplbdojbaaGreatDoorQBE
namespace Go.Proofs.YtfmpphplbdojbaaGreatDoor
open Lib(hid)
set_option linter.all false
set_option maxHeartbeats 40000000
set_option maxRecDepth 100000
namespace Rnd
open Go.RowKit
open Grd (Pt Fo)
variable {w w':World}{B b:Nat}{lv rv ev:Value}{l:List Pt}{raw:Nat->List UInt8}{E:List Nat}{bs t:List UInt8}{c:Nat}
theorem eQ2 {u u':World}{p:Addr}{v:Value} (hb:Below u.heap.size u u') (hp:p.block < u.heap.size) (h:u.cell? p=some v):u'.cell? p=some v:=by rw [hb.cell hp];exact h
theorem dQ3 {i:Nat}{rb ro rc:Nat} (hi:i < l.length) (hr:raw i≠[]) (H:St B b l raw E lv (.slice (some ⟨rb,ro,none⟩) l.length rc) ev bs w) (hc:w.cell? ⟨rb,ro+i,none⟩=some (.string ⟨(raw i).toArray⟩)) (hn:bs.length+(raw i).length<=1099511627776) :
  Calls Tryz.prog 36 #[.pointer (some ⟨b,0,none⟩),.int .i64 (i:Int)] w fun e w'=>e=.returned (.tuple #[])/\Stp B b l raw E lv (.slice (some ⟨rb,ro,none⟩) l.length rc) ev (bs++raw i) w w':=by
 obtain⟨⟨v,hv⟩,_⟩:=id H;obtain⟨pw,_,hb⟩:=hv.blk;have c3:w.cell? ⟨b,3,none⟩=some (.slice (some ⟨rb,ro,none⟩) l.length rc):=Dm
 have g0:(raw i==[])=false:=by simpa using hr
 have hff:[raw i].flatten=raw i:=Cm
 have HP:=hid (UQ0 (w:=w) [raw i] #[.string ⟨(raw i).toArray⟩] 1 rfl rfl H (by rw [hff];exact hn) Ch);rw [hff] at HP;have i0:(0:Int)<=(i:Int):=Cf
 have i1:(i:Int) < (l.length:Int):=Cf
 clear hv hb hr H hn hff;generalize raw i=s at *;go_enter Tryz.func36,Tryz.ntmps36;go_wp2_with fail;refine HP.out.mono ?_;rintro e w2 ⟨rfl,hs⟩;go_wp2_with fail;refine bodyPost_ret (v:=.tuple #[]) Fg rfl ⟨rfl,hs⟩
theorem zQ3 {W:World}{pb:Nat}{x y z:Value}{T:TypeId} (h:W.heap[pb]?=some (.cells #[x,y,z] T (0,0))) (a b c:Value) :
  (((W.setCell ⟨pb,0,none⟩ a).setCell ⟨pb,1,none⟩ b).setCell ⟨pb,2,none⟩ c).heap[pb]?=some (.cells #[a,b,c] T (0,0))/\Fr [pb] W (((W.setCell ⟨pb,0,none⟩ a).setCell ⟨pb,1,none⟩ b).setCell ⟨pb,2,none⟩ c):=by
 refine⟨?_,(NA pb 0 W a).trans ((NA pb 1 _ b).trans (NA pb 2 _ c))⟩;have h1:(W.setCell ⟨pb,0,none⟩ a).heap[pb]?=some (.cells #[a,y,z] T (0,0)):=by rw [heap_setCell_same W pb 0 _ _ _ h];rfl
 have h2:((W.setCell ⟨pb,0,none⟩ a).setCell ⟨pb,1,none⟩ b).heap[pb]?=some (.cells #[a,b,z] T (0,0)):=by rw [heap_setCell_same _ pb 1 _ _ _ h1];rfl
 rw [heap_setCell_same _ pb 2 _ _ _ h2];rfl
theorem jQ3 {W W':World}{b pb:Nat}{a:Option Addr}{ks:List Nat}{cs:Array Value}{fr:Nat × Nat} (h:YQ0 b a ks W) (hp:W.heap[pb]?=some (.cells cs 46 fr)) (hf:Fr [pb] W W'):YQ0 b a ks W':=by
 rcases h with h|⟨kb,ko,c2,f2,h1,h2,h3,h4⟩
 ·exact .inl h
 ·refine .inr ⟨kb,ko,c2,f2,h1,h2,hf.at_ (fun hm=>?_) h3,h4⟩;obtain rfl:kb=pb:=by simpa using hm
  rw [hp] at h3
  injection h3 with h3
  injection h3 with _ h5 _
  exact absurd h5 Ch
theorem mQ3 {i e:Nat}{p:Pt}{ks:List Nat}{ts:List Tx} (hp:l[i]?=some p) (hE:E[i]?=some e) (hC:yQ1 E (i+1) e ks) (hel:e<=l.length) (hK:KL l raw E lv rv ev ks ts) (hk:p.k.toNat<=68) (har:(gD p.k.toNat).1<=(ks.length:Int)/\((gD p.k.toNat).2=false->(ks.length:Int)=(gD p.k.toNat).1)) (hw:p.w.length<=1048576) (hkl:ks.length<=100000000)
  (hr:rv=.slice none 0 0∨∃ rb ro rc,rv=.slice (some ⟨rb,ro,none⟩) l.length rc/\w.cell? ⟨rb,ro+i,none⟩=some (.string ⟨#[]⟩)) (H:St B b l raw E lv rv ev bs w) (hn:bs.length+(TQ0 p.k.toNat p.w ts).length<=1099511627776) :
  Calls Tryz.prog 36 #[.pointer (some ⟨b,0,none⟩),.int .i64 (i:Int)] w fun e w'=>e=.returned (.tuple #[])/\Stp B b l raw E lv rv ev (bs++TQ0 p.k.toNat p.w ts) w w':=by
 have hi:=(Ai.1 hp).1;obtain⟨⟨v,hv⟩,hev⟩:=id H;obtain⟨pw,_,hb⟩:=hv.blk;have c3:w.cell? ⟨b,3,none⟩=some rv:=Dm
 obtain⟨lb,lo,lc,rfl,hlb,hpc⟩:=hev.parts;obtain⟨p0,p1,p2⟩:=hpc i p hp;have hbl:=hv.lt;have hbB:=hv.lo;have HS:Hid (∀ w',Below w.heap.size w w'->w'.cell? ⟨b,2,none⟩=some (.slice (some ⟨lb,lo,none⟩) l.length lc)/\w'.cell? ⟨lb,lo+i*3,none⟩=some (.int .u8 (p.k.toNat:Int))/\w'.cell? ⟨lb,lo+i*3+1,none⟩=some (.int .i64 p.n)/\w'.cell? ⟨lb,lo+i*3+2,none⟩=some (.string ⟨p.w.toArray⟩)):=hid (fun w' h=>by
  have h1:=(h.block _ hbl).trans hb;exact⟨Fk,eQ2 h Fp p0,eQ2 h Fp p1,eQ2 h Fp p2⟩)
 have i0:(0:Int)<=(i:Int):=Cf
 have i1:(i:Int) < (l.length:Int):=Cf
 have HKW:=hid (fun (w1:World) (hb1:Below w.heap.size w w1)=>NQ1 i e ks (H.later hb1) hi hE hC hkl hel);have HD:=hid (fun (w1:World) (a:Option Addr) (cap:Nat) (hcap:ks.length<=cap) (hA:YQ0 b a ks w1) (H1:St B b l raw E (.slice (some ⟨lb,lo,none⟩) l.length lc) rv ev bs w1) (h:p.k.toNat < 26)=>wM (w:=w1) p.k.toNat p.n p.w a cap hK hcap hA H1 hn hw hkl har Cf);have HX:=hid (fun (w1:World) (a:Option Addr) (cap:Nat) (hcap:ks.length<=cap) (hA:YQ0 b a ks w1) (H1:St B b l raw E (.slice (some ⟨lb,lo,none⟩) l.length lc) rv ev bs w1) (h:26<=p.k.toNat/\p.k.toNat < 49)=>GQ1 (w:=w1) p.k.toNat p.n p.w a cap hK hcap hA H1 hn hw hkl har Cf);have HT:=hid (fun (w1:World) (a:Option Addr) (cap:Nat) (hcap:ks.length<=cap) (hA:YQ0 b a ks w1) (H1:St B b l raw E (.slice (some ⟨lb,lo,none⟩) l.length lc) rv ev bs w1) (h:49<=p.k.toNat)=>LQ1 (w:=w1) p.k.toNat p.n p.w a cap hK hcap hA H1 hn hw hkl har Cf);have HH:=hid H;have hb1:=(J' w.heap.size w).drew;generalize TQ0 p.k.toNat p.w ts=Z at *;clear hv hev hb hpc hp hE hC hK har hn H;have fin:∀ w4 w',Hid (Below w.heap.size w w4)->Stp B b l raw E (.slice (some ⟨lb,lo,none⟩) l.length lc) rv ev (bs++Z) w4 w'->Stp B b l raw E (.slice (some ⟨lb,lo,none⟩) l.length lc) rv ev (bs++Z) w w':=fun w4 w' h1 h2=>Stp.ahead HH.out h1.out h2
 have FIN:=hid fin;clear fin;go_enter Tryz.func36,Tryz.ntmps36;have hup:Hid True:=hid trivial;rcases hr with rfl|⟨rb,ro,rc,rfl,hrc⟩
 all_goals
  go_upto_region 2 with fail;clear c3;refine wp_region_held_drew (S:=fun w'=>w'.cell? ⟨b,2,none⟩=some (.slice (some ⟨lb,lo,none⟩) l.length lc)/\w'.cell? ⟨lb,lo+i*3,none⟩=some (.int .u8 (p.k.toNat:Int))/\w'.cell? ⟨lb,lo+i*3+1,none⟩=some (.int .i64 p.n)/\w'.cell? ⟨lb,lo+i*3+2,none⟩=some (.string ⟨p.w.toArray⟩)) Ci ?_ (fun hHeld=>?_)
  ·exact HS.out _ hb1
  refine tk 0 ?_;try simp only [Act.put,ls]
  refine tk 1 ?_;try simp only [Act.put,ls]
  refine tk 2 ?_;try simp only [Act.put,ls]
  refine tk 3 ?_;try simp only [Act.put,ls]
  refine tk 4 ?_;try simp only [Act.put,ls]
  refine tk 5 ?_;try simp only [Act.put,ls]
  refine tk 6 ?_;try simp only [Act.put,ls]
  refine tk 7 ?_;try simp only [Act.put,ls]
  refine tk 8 ?_;try simp only [Act.put,ls]
  refine wpAnyH_ready (rs:=[9,10]) Ci Cm (AllReadyH.cons (o:=?_) ?_ (fun K hK=>?_) (AllReadyH.cons (o:=?_) ?_ (fun K hK=>?_) AllReadyH.nil))
  rotate_left
  ·exact Ax
  rotate_left 2
  ·exact Ax
  focus
   go_simp;go_wp2_with fail;have hb3:=hb1.alloc hb1.size (Obj.cells #[.int .u8 0,.int .i64 0,.string ⟨#[]⟩] 46);refine hK.out _ _ ?_ (fun hHeld10=>?_)
   ·first|exact HS.out _ hb3|exact HS.out _ hb3.drew
   clear hK K
   try simp only [Act.put,ls]
   refine wpAnyH_ready (rs:=[9]) Ci Cm (AllReadyH.cons (o:=?_) ?_ (fun K hK=>?_) AllReadyH.nil)
   rotate_left
   ·exact Ax
   go_simp;go_at_call 52;refine (HKW.out _ hb3).mono ?_;rintro x w3 ⟨a,cap,rfl,hcap,hA,hb⟩;have hb2:=hb3.trans (hb.mono hb3.size);go_wp2_with fail;refine hK.out _ _ ?_ (fun hHeld9=>?_)
   ·exact HS.out _ hb2
   clear hK K
   try simp only [Act.put,ls]
   have A3:=(hb.block _ Cm).trans (heap_alloc_new w (Obj.cells #[.int .u8 0,.int .i64 0,.string ⟨#[]⟩] 46));have HB3:=hid (And.intro hb2 (C' w.heap.size));have HA3:=hid hA;have hH3:=hHeld9;clear hb hb2 hb3 hA hHeld9 hHeld10;generalize hpb:w.heap.size=pb at A3 HB3 ⊢;replace HB3:Hid (Below w.heap.size w w3/\w.heap.size<=pb):=by rw [hpb];exact HB3
   clear hpb
  rotate_left
  focus
   go_simp;go_at_call 52;refine (HKW.out w.drew hb1).mono ?_;rintro x w2 ⟨a,cap,rfl,hcap,hA,hb⟩;have hb2:=hb1.trans (hb.mono hb1.size);go_wp2_with fail;refine hK.out _ _ ?_ (fun hHeld9=>?_)
   ·exact HS.out _ hb2
   clear hK K
   try simp only [Act.put,ls]
   refine wpAnyH_ready (rs:=[10]) Ci Cm (AllReadyH.cons (o:=?_) ?_ (fun K hK=>?_) AllReadyH.nil)
   rotate_left
   ·exact Ax
   go_simp;go_wp2_with fail;have hb3:=hb2.alloc hb2.size (Obj.cells #[.int .u8 0,.int .i64 0,.string ⟨#[]⟩] 46);refine hK.out _ _ ?_ (fun hHeld10=>?_)
   ·first|exact HS.out _ hb3|exact HS.out _ hb3.drew
   clear hK K
   try simp only [Act.put,ls]
   have A3:=heap_alloc_new w2 (Obj.cells #[.int .u8 0,.int .i64 0,.string ⟨#[]⟩] 46);have HB3:=hid (And.intro hb3 hb2.size);have HA3:=hid (hA.kept (XQ0.of_below ((J' w2.heap.size w2).alloc (C' _) (Obj.cells #[.int .u8 0,.int .i64 0,.string ⟨#[]⟩] 46))));have hH3:=hHeld10;clear hb hb2 hb3 hA hHeld9 hHeld10;generalize w2.heap.size=pb at A3 HB3 ⊢;generalize w2.alloc (Obj.cells #[.int .u8 0,.int .i64 0,.string ⟨#[]⟩] 46)=w3 at A3 HB3 HA3 hH3 ⊢
  all_goals
   refine wpAnyH_ready (rs:=[11]) Ci Cm (AllReadyH.cons (o:=?_) ?_ (fun K hK=>?_) AllReadyH.nil)
   rotate_left
   ·exact Ax
   have hst:=zQ3 A3 (.int .u8 (p.k.toNat:Int)) (.int .i64 p.n) (.string ⟨p.w.toArray⟩);have e0:w3.cell? ⟨pb,0,none⟩=some (.int .u8 0):=Gs
   have e1:w3.cell? ⟨pb,1,none⟩=some (.int .i64 0):=Gs
   have e2:w3.cell? ⟨pb,2,none⟩=some (.string ⟨#[]⟩):=Gs
   have z0:w3.frozen? ⟨pb,0,none⟩=false:=Gj
   have z1:w3.frozen? ⟨pb,1,none⟩=false:=Gj
   have z2:w3.frozen? ⟨pb,2,none⟩=false:=Gj
   have HB4:=hid (HB3.out.1.trans (DQ1 hst.2 HB3.out.1.size (by intro x hx;simp at hx;subst hx;exact HB3.out.2)));have HA4:=hid (jQ3 HA3.out A3 hst.2);have HBx:=hid hst.1;clear hst A3;go_simp;go_wp2_with fail;generalize ((w3.setCell ⟨pb,0,none⟩ (.int .u8 (p.k.toNat:Int))).setCell ⟨pb,1,none⟩ (.int .i64 p.n)).setCell ⟨pb,2,none⟩ (.string ⟨p.w.toArray⟩)=w4 at HB4 HA4 HBx ⊢;refine hK.out _ _ ?_ (fun hHeld11=>?_)
   ·exact HS.out _ HB4.out
   clear hK K hH3
   try simp only [Act.put,ls]
   refine tk 12 ?_;try simp only [Act.put,ls]
   refine wpAnyH_done Ci ?_ _;clear hHeld11 hHeld e0 e1 e2 z0 z1 z2 p0 p1 p2;have k0:w4.cell? ⟨pb,0,none⟩=some (.int .u8 (p.k.toNat:Int)):=Fy
   have k1:w4.cell? ⟨pb,1,none⟩=some (.int .i64 p.n):=Fy
   have k2:w4.cell? ⟨pb,2,none⟩=some (.string ⟨p.w.toArray⟩):=Fy
   have HD4:=hid (HD.out w4 a cap hcap HA4.out (HH.out.later HB4.out));have HX4:=hid (HX.out w4 a cap hcap HA4.out (HH.out.later HB4.out));have HT4:=hid (HT.out w4 a cap hcap HA4.out (HH.out.later HB4.out));by_cases h26:p.k.toNat < 26
   ·have i26:(p.k.toNat:Int) < 26:=by omega
    have g0:decide ((p.k.toNat:Int) < 26)=true:=by simpa using i26
    go_wp2_with fail;refine (HD4.out h26).mono ?_;rintro e wz ⟨rfl,hs⟩;have hs2:=FIN.out _ _ HB4 hs;go_wp2_with fail
    first|(go_end0;exact⟨rfl,hs2⟩)|exact bodyPost_ret (v:=.tuple #[]) Fg rfl ⟨rfl,hs2⟩
   ·have i26:¬ (p.k.toNat:Int) < 26:=by omega
    have g0:decide ((p.k.toNat:Int) < 26)=false:=by simpa using i26
    by_cases h49:p.k.toNat < 49
    ·have i49:(p.k.toNat:Int) < 49:=by omega
     have g1:decide ((p.k.toNat:Int) < 49)=true:=by simpa using i49
     go_wp2_with fail;refine (HX4.out ⟨Cf,h49⟩).mono ?_;rintro e wz ⟨rfl,hs⟩;have hs2:=FIN.out _ _ HB4 hs;go_wp2_with fail
     first|(go_end0;exact⟨rfl,hs2⟩)|exact bodyPost_ret (v:=.tuple #[]) Fg rfl ⟨rfl,hs2⟩
    ·have i49:¬ (p.k.toNat:Int) < 49:=by omega
     have g1:decide ((p.k.toNat:Int) < 49)=false:=by simpa using i49
     go_wp2_with fail;refine (HT4.out Cf).mono ?_;rintro e wz ⟨rfl,hs⟩;have hs2:=FIN.out _ _ HB4 hs;go_wp2_with fail
     first|(go_end0;exact⟨rfl,hs2⟩)|exact bodyPost_ret (v:=.tuple #[]) Fg rfl ⟨rfl,hs2⟩
end Rnd
namespace Rnd
open Go.RowKit
open Grd (Pt Fo)
open Shp (pZ eF xZ)
variable {l:List Pt}{raw:Nat->List UInt8}{E:List Nat}{lv rv ev:Value}
theorem SQ2:∀ (f:Fo) (o:Nat),(∀ x,o<=x->x < o+f.size->E[x]?=some (eF f o x))->yQ1 E o (o+f.size) (pZ f o)
 | .nil,_,_=>rfl
 | .cons p k r,o,h=>by
  have hs:(Fo.cons p k r).size=1+k.size+r.size:=rfl;rw [hs] at h ⊢;refine⟨rfl,Cf,o+1+k.size,by rw [h o Cf Cf];simp [eF],?_⟩;rw [show o+(1+k.size+r.size)=o+1+k.size+r.size by omega];exact SQ2 r _ fun x h1 h2=>by rw [h x Cf Cf];simp only [eF];rw [if_neg Cf,if_neg Cf]
theorem count_le:∀ f:Fo,f.count<=f.size
 | .nil=>C' _
 | .cons p k r=>by have:=count_le r;simp only [Fo.count,Fo.size];omega
def FOk:Fo->Prop
 | .nil=>True
 | .cons p k r=>(p.k.toNat<=68/\((gD p.k.toNat).1<=(k.count:Int)/\((gD p.k.toNat).2=false->(k.count:Int)=(gD p.k.toNat).1))/\p.w.length<=1048576)/\FOk k/\FOk r
theorem rQ3 {o:Nat}{p:Pt}{ks:List Nat}{ts:List Tx}{e:Nat} (hp:l[o]?=some p) (hE:E[o]?=some e) (hC:yQ1 E (o+1) e ks) (hel:e<=l.length) (hK:KL l raw E lv rv ev ks ts)
  (h:p.k.toNat<=68/\((gD p.k.toNat).1<=(ks.length:Int)/\((gD p.k.toNat).2=false->(ks.length:Int)=(gD p.k.toNat).1))/\p.w.length<=1048576) (hkl:ks.length<=l.length) :
  lQ1 l raw E lv rv ev o (if raw o=[] then TQ0 p.k.toNat p.w ts else raw o):=by
 intro B b bs w H hn;have hi:=(Ai.1 hp).1;have hfew:=H.2.few;by_cases hr:raw o=[]
 ·rw [if_pos hr] at hn ⊢;refine mQ3 hp hE hC hel hK h.1 h.2.1 h.2.2 Cf ?_ H hn;rcases H.2.raws with ⟨h1,_⟩|⟨rb,ro,rc,h1,_,h2⟩
  ·exact .inl h1
  ·have:=h2 o hi;rw [hr] at this;exact .inr ⟨rb,ro,rc,h1,this⟩
 ·rw [if_neg hr] at hn ⊢;rcases H.2.raws with ⟨_,h2⟩|⟨rb,ro,rc,h1,_,h2⟩
  ·exact absurd (h2 o) hr
  ·subst h1;exact dQ3 hi hr H (h2 o hi) hn
theorem RQ2:∀ (f:Fo) (o:Nat),FOk f->(∀ x p,f.flat[x]?=some p->l[o+x]?=some p)->(∀ x,o<=x->x < o+f.size->E[x]?=some (eF f o x))->o+f.size<=l.length->KL l raw E lv rv ev (pZ f o) (txF raw f o)
 | .nil,_,_,_,_,_=>⟨rfl,fun j c x h _=>by simp [pZ] at h⟩
 | .cons p k r,o,hk,hl,hE,ho=>by
  have hs:(Fo.cons p k r).size=1+k.size+r.size:=rfl;have hfl:=Grd.Fo.flat_len k;rw [hs] at hE ho;obtain⟨h1,h2,h3⟩:=hk;have e1:E[o]?=some (o+1+k.size):=by rw [hE o Cf Cf];simp [eF]
  have eK:∀ x,o+1<=x->x < o+1+k.size->E[x]?=some (eF k (o+1) x):=fun x a b=>Dt
  have eR:∀ x,o+1+k.size<=x->x < o+1+k.size+r.size->E[x]?=some (eF r (o+1+k.size) x):=fun x a b=>Du
  have p0:l[o]?=some p:=hl 0 p rfl;have lK:∀ x q,k.flat[x]?=some q->l[o+1+x]?=some q:=fun x q hx=>by
   have:=hl (x+1) q (by rw [Fo.flat,F',List.getElem?_append_left (Ai.1 hx).1];exact hx);rw [show o+1+x=o+(x+1) by omega];exact this
  have lR:∀ x q,r.flat[x]?=some q->l[o+1+k.size+x]?=some q:=fun x q hx=>by
   have:=hl (k.size+x+1) q (by rw [Fo.flat,F',Au Cf,hfl,show k.size+x - k.size=x by omega];exact hx);rw [show o+1+k.size+x=o+(k.size+x+1) by omega];exact this
  have kK:=RQ2 k (o+1) h2 lK eK Cf;have kR:=RQ2 r (o+1+k.size) h3 lR eR Cf;have hc:=xZ k (o+1);have hcs:k.count<=k.size:=count_le k;have P:=rQ3 (raw:=raw) (lv:=lv) (rv:=rv) (ev:=ev) p0 e1 (SQ2 k (o+1) eK) Cf kK (by rw [hc];exact h1) Cf;refine⟨by simp [pZ,txF,kR.len],fun j c x hj hx=>?_⟩;cases j with
  | zero =>
   simp only [pZ,txF,H',Option.some.injEq] at hj hx;subst hj;subst hx;exact⟨P,p,p0,rfl⟩
  | succ j =>
   simp only [pZ,txF,F'] at hj hx;exact kR.law j c x hj hx
end Rnd
namespace Rnd
open Go.RowKit
open Grd (Pt Fo zer ivs UW ET)
open Shp (pZ eF xZ)
theorem NQ2 {E:List Nat} (hmono:∀ x y:Nat,E[x]?=some y->x<=y):∀ (ks:List Nat) (j e t:Nat),yQ1 E j e ks->t < ks.length->∃ x y,(ks++[e])[t]?=some x/\j<=x/\x < e/\E[x]?=some y/\(ks++[e])[t+1]?=some y
 | [],_,_,_,_,h=>Ha
 | x::r,j,e,t,⟨h1,h2,j',h3,h4⟩,ht=>by
  subst h1;cases t with
  | zero =>
   refine⟨x,j',rfl,C' _,h2,h3,?_⟩;cases r with
   | nil=>obtain rfl:j'=e:=h4;rfl
   | cons y s=>obtain⟨rfl,_⟩:=h4;rfl
  | succ t =>
   obtain⟨a,b,e1,e2,e3,e4,e5⟩:=NQ2 hmono r j' e t h4 (by simpa using ht);have:x<=j':=by
    cases r with
    | nil=>obtain rfl:j'=e:=h4;omega
    | cons y s=>exact hmono _ _ h3
   exact⟨a,b,by simpa using e1,Cf,e3,e4,by simpa using e5⟩
theorem Tryz.infoI5:(Tryz.prog.info? 3).map (fun i=>(i.zero,i.size,i.bytes))=some (some (.int .i64 0),1,8):=Ci
def AQ2 (t:List UInt8):Value:=.tuple #[.string ⟨(if 65536 < t.length then [] else t).toArray⟩,.int .i64 (if 65536 < t.length then 2 else 0)]
theorem aQ3 {l:List Pt}{raw:Nat->List UInt8}{E:List Nat}{rv:Value}{lb lo lc:Nat}{w:World}{t:List UInt8} (hl0:0 < l.length) (few:l.length<=100000000) (hlb:lb < w.heap.size)
  (hp:∀ j p,l[j]?=some p->w.cell? ⟨lb,lo+j*3,none⟩=some (.int .u8 (p.k.toNat:Int))/\w.cell? ⟨lb,lo+j*3+1,none⟩=some (.int .i64 p.n)/\w.cell? ⟨lb,lo+j*3+2,none⟩=some (.string ⟨p.w.toArray⟩))
  (hr:(rv=.slice none 0 0/\∀ j,raw j=[])∨∃ rb ro cap,rv=.slice (some ⟨rb,ro,none⟩) l.length cap/\rb < w.heap.size/\∀ j,j < l.length->w.cell? ⟨rb,ro+j,none⟩=some (.string ⟨(raw j).toArray⟩))
  (hE:E.length=l.length) (hmono:∀ x y:Nat,E[x]?=some y->x<=y) (hC:∀ j p e,l[j]?=some p->E[j]?=some e->∃ ks:List Nat,p.n=(ks.length:Int)/\yQ1 E (j+1) e ks/\e<=l.length/\ks.length<=100000000)
  (hP:∀ eb ec,lQ1 l raw E (.slice (some ⟨lb,lo,none⟩) l.length lc) rv (.slice (some ⟨eb,0,none⟩) l.length ec) 0 t) (ht:t.length<=1099511627776) :
  Calls Tryz.prog 23 #[.slice (some ⟨lb,lo,none⟩) l.length lc,rv] w fun e w'=>e=.returned (AQ2 t)/\Below w.heap.size w w':=by
 obtain⟨i0,hi,hz0,hz1,hz2⟩:=info_parts Tryz.infoI5;have HP:=hid hP;have HCC:=hid hC;have HPP:=hid hp;have HR:=hid hr;obtain⟨ra,rn,rc,rfl⟩:∃ a n c,rv=.slice a n c:=by
  rcases hr with ⟨h,_⟩|⟨_,_,_,h,_⟩
  ·exact⟨_,_,_,h⟩
  ·exact⟨_,_,_,h⟩
 clear hP hC hp hr;go_enter Tryz.func23,Tryz.ntmps23;go_wp2_with (refine wpList_make_full _ rfl _ _ 55 rfl w.heap.size 3 i0 (.int .i64 0) 1 Tryz.underlying55 hi hz0 hz1 .i64 .i64 l.length l.length l.length rfl rfl rfl rfl Jg Cu (C' _) ?_;intro w1 hown hgrow);have hb0:w.heap.size < w1.heap.size:=(hown.lt _ rfl).2;have hA:=hown.alloc (Obj.cells #[Value.pointer none,.slice none 0 0,.slice (some ⟨lb,lo,none⟩) l.length lc,.slice ra rn rc,.slice (some ⟨w.heap.size,0,none⟩) l.length l.length] 78);have hbx:=heap_alloc_new w1 (Obj.cells #[Value.pointer none,.slice none 0 0,.slice (some ⟨lb,lo,none⟩) l.length lc,.slice ra rn rc,.slice (some ⟨w.heap.size,0,none⟩) l.length l.length] 78);have hbel:=((J' w.heap.size w).grown hgrow (C' _) (fun k h=>C4)).alloc Cf (Obj.cells #[Value.pointer none,.slice none 0 0,.slice (some ⟨lb,lo,none⟩) l.length lc,.slice ra rn rc,.slice (some ⟨w.heap.size,0,none⟩) l.length l.length] 78);have e1:(madeCells (Value.int IntKind.i64 0).cells (l.length*1)).toList=zer l.length++ivs []:=by
  rw [show (Value.int IntKind.i64 0).cells=#[Value.int IntKind.i64 0] from rfl,toList_madeCells_one];simp [zer,ivs]
 rw [e1] at hA;generalize w1.alloc (Obj.cells #[Value.pointer none,.slice none 0 0,.slice (some ⟨lb,lo,none⟩) l.length lc,.slice ra rn rc,.slice (some ⟨w.heap.size,0,none⟩) l.length l.length] 78)=W0 at hA hbx hbel ⊢;clear hown hgrow e1;generalize w1.heap.size=b at hb0 hbx ⊢;generalize hen:w.heap.size=eb at hb0 hA hbx hlb ⊢;generalize hN:l.length=N at *;have HEN:=hid hen;clear hen
 go_loopw [7] (fun u wr=>∃ (i:Nat) (q:Int),i<=N/\u=.int .i64 q/\(i:Int)=q+1 /\
   wr.ownsRow eb 3 1 (.slice (some ⟨eb,0,none⟩) N N) N (zer i++ivs (E.drop i))/\wr.heap[b]?=some (Obj.cells #[Value.pointer none,.slice none 0 0,.slice (some ⟨lb,lo,none⟩) N lc,.slice ra rn rc,.slice (some ⟨eb,0,none⟩) N N] 78 (0,0))/\Below w.heap.size w wr)
  (fun u _=>((intOf u)+1).toNat)
 case atStart =>
  refine⟨N,(N:Int) - 1,C' _,rfl,Cf,?_,hbx,hbel⟩;rw [List.drop_of_length_le Cf];exact hA
 case round =>
  obtain⟨i,q,hi1,rfl,hq,hown1,hbx1,hbel1⟩:=hrel;clear hA hbx hbel;have c4:wr.cell? ⟨b,4,none⟩=some (.slice (some ⟨eb,0,none⟩) N N):=by unfold World.cell?;rw [hbx1];rfl
  by_cases hneg:q < 0
  ·obtain rfl:i=0:=by omega
   have HST:Hid (St (eb+1) b l raw E (.slice (some ⟨lb,lo,none⟩) N lc) (.slice ra rn rc) (.slice (some ⟨eb,0,none⟩) N N) [] wr):=by
    subst hN;have hrow:∀ j e,E[j]?=some e->wr.cell? ⟨eb,j,none⟩=some (.int .i64 ((e:Nat):Int)):=fun j e hj=>by
     have h1:=hown1.cellAt j (by have:=(Ai.1 hj).1;omega);rw [h1];simp only [zer,List.replicate_zero,Ao,List.drop_zero,ivs,List.getElem?_map,hj,Option.map_some]
    refine hid ⟨⟨.slice none 0 0,hb0,⟨_,.inl rfl,hbx1⟩,As _ _ _ _,Cz⟩,few,⟨lb,lo,lc,rfl,Cf,fun j p hj=>?_⟩,⟨eb,_,rfl,Cf,hE,hrow⟩,?_⟩
    ·obtain⟨x,y,z⟩:=HPP.out j p hj;have hlb2:=HEN.out;exact⟨eQ2 hbel1 Fp x,eQ2 hbel1 Fp y,eQ2 hbel1 Fp z⟩
    ·rcases HR.out with h|⟨rb,ro,cap,h1,h2,h3⟩
     ·exact .inl h
     ·have hlb2:=HEN.out;exact .inr ⟨rb,ro,cap,h1,Cf,fun j hj=>eQ2 hbel1 (by show rb < _;omega) (h3 j hj)⟩
   have HBL:=hid hbel1;have HPL:=hid (HP.out eb N);have HEB:=hid (show eb+1<=wr.heap.size by have:=hbel1.size;have:=HEN.out;have:=RA hbx1;omega);clear hown1 hbx1 hbel1 c4 hq;have HT:=hid ht;have hcnt:=(hid rfl:Hid (AQ2 t=.tuple #[.string ⟨(if 65536 < t.length then [] else t).toArray⟩,.int .i64 (if 65536 < t.length then 2 else 0)]));clear ht;go_wp2_with fail;refine (HPL.out _ _ [] _ HST.out (by have:=HT.out;simpa using this)).mono ?_;rintro x w5 ⟨rfl,hs⟩;rw [Ao] at hs;obtain⟨⟨v5,hw5⟩,_⟩:=hs.1;have HW5:=hid hw5;have HB5:=hid (HBL.out.trans (hs.2.1.mono (B:=eb+1) (by have:=HEN.out;omega)));clear hw5 hs;go_wp2_with fail;refine (PQ1 HW5.out).mono ?_;rintro x w6 ⟨rfl,hw6⟩;obtain rfl:w6=w5:=hw6;by_cases hlong:65536 < t.length
   ·have i1:(65536:Int) < (t.length:Int):=by omega
    have HO:Hid (AQ2 t=.tuple #[.string ⟨#[]⟩,.int .i64 2]):=hid (by rw [hcnt.out,if_pos hlong,if_pos hlong]);clear hlong hcnt;go_wp2_with fail;go_ret2;exact⟨I5,HB5.out⟩
   ·have i1:¬ (65536:Int) < (t.length:Int):=by omega
    have HO:Hid (AQ2 t=.tuple #[.string ⟨t.toArray⟩,.int .i64 0]):=hid (by rw [hcnt.out,if_neg hlong,if_neg hlong]);clear hlong hcnt;go_wp2_with fail;refine (wQ1 HW5.out).mono ?_;rintro x w7 ⟨rfl,hb7⟩;have hb8:=hid (HB5.out.trans (hb7.mono (by have:=HEN.out;omega)));clear hb7;go_wp2_with fail;go_ret2;exact⟨I5,hb8.out⟩
  ·obtain⟨j,rfl⟩:=Aa (show 0<=q by omega);obtain rfl:i=j+1:=by omega
   have hj:j < N:=Cf
   obtain⟨p,hpj⟩:∃ p,l[j]?=some p:=⟨_,M' Cf⟩;obtain⟨e,hej⟩:∃ e,E[j]?=some e:=⟨_,M' Cf⟩;obtain⟨ks,hks,hch,hel,hkl⟩:=HCC.out j p e hpj hej;have p1:wr.cell? ⟨lb,lo+j*3+1,none⟩=some (.int .i64 (ks.length:Int)):=by rw [<- hks];exact eQ2 hbel1 F8 (HPP.out j p hpj).2.1
   have hdr:E.drop j=e::E.drop (j+1):=by rw [An Cf];rw [M' Cf] at hej;rw [Option.some.inj hej]
   have HDR:=hid hdr;have HCH:=hid (fun t=>NQ2 hmono ks (j+1) e t hch);have HKS:Hid ((ks++[e])[ks.length]?=some e/\(∃ c0,(ks++[e])[0]?=some c0/\c0=j+1)):=hid ⟨Cm,by
    cases ks with
    | nil=>exact⟨e,rfl,hch.symm⟩
    | cons x r=>exact⟨x,rfl,hch.1⟩⟩
   have hcell1:=hown1.cellAt j Cf;have hfz:=hown1.frozenAt j;have e0:(zer (j+1)++ivs (E.drop (j+1)))[j]?=some (Value.int .i64 0):=by
    rw [List.getElem?_append_left Jh];simp [zer]
   rw [e0] at hcell1;have hw2:=hown1.stored j (.int .i64 ((j:Int)+1));rw [UW] at hw2;clear e0 hks hch hdr hej hpj hneg hq;go_upto_region 6 with fail;have hown2:=hw2.1;have hbx2:(wr.setCell ⟨eb,j,none⟩ (.int .i64 ((j:Int)+1))).heap[b]?=some (Obj.cells #[Value.pointer none,.slice none 0 0,.slice (some ⟨lb,lo,none⟩) N lc,.slice ra rn rc,.slice (some ⟨eb,0,none⟩) N N] 78 (0,0)):=(Ad wr ⟨eb,j,none⟩ _ b (by show b≠eb;omega)).trans hbx1;have hbel2:=hbel1.grown hw2.2 hbel1.size (fun k h=>Ig);have p2:=(hbel2.cell (p:=⟨lb,lo+j*3+1,none⟩) F8).trans ((hbel1.cell (p:=⟨lb,lo+j*3+1,none⟩) F8).symm.trans p1);generalize wr.setCell ⟨eb,j,none⟩ (.int .i64 ((j:Int)+1))=w2 at *;clear hw2 hown1 hbx1 hbel1 hcell1 hfz c4 p1;go_upto_region 7 with fail
   go_loopw [35] (fun u wq=>∃ (t c:Nat),t<=ks.length/\u=.int .i64 (t:Int)/\(ks++[e])[t]?=some c /\
     wq.ownsRow eb 3 1 (.slice (some ⟨eb,0,none⟩) N N) N (zer j++ivs (c::E.drop (j+1)))/\wq.heap[b]?=some (Obj.cells #[Value.pointer none,.slice none 0 0,.slice (some ⟨lb,lo,none⟩) N lc,.slice ra rn rc,.slice (some ⟨eb,0,none⟩) N N] 78 (0,0))/\Below w.heap.size w wq)
    (fun u _=>((ks.length:Int) - intOf u).toNat)
   case atStart =>
    obtain⟨_,c0,h1,h2⟩:=HKS.out;refine⟨0,c0,Nat.zero_le _,rfl,h1,?_,hbx2,hbel2⟩;rw [h2];exact hown2
   case round =>
    obtain⟨t,c,ht1,rfl,hc,hown3,hbx3,hbel3⟩:=hrel;clear hown2 hbx2 hbel2 p2;have c4:wr.cell? ⟨b,4,none⟩=some (.slice (some ⟨eb,0,none⟩) N N):=by unfold World.cell?;rw [hbx3];rfl
    by_cases htk:t=ks.length
    ·subst htk;obtain rfl:c=e:=by have:=HKS.out.1;rw [this] at hc;exact (Option.some.inj hc).symm
     have hown4:wr.ownsRow eb 3 1 (.slice (some ⟨eb,0,none⟩) N N) N (zer j++ivs (E.drop j)):=by rw [HDR.out];exact hown3
     clear hc c4 hown3;go_wp2_with fail;go_roundw
     case rel=>exact⟨j,(j:Int) - 1,Cf,rfl,Cf,hown4,hbx3,hbel3⟩
     case measure=>simp [intOf]
    ·obtain⟨d,y,h1,h2,h3,h4,h5⟩:=HCH.out t Cf;obtain rfl:d=c:=by rw [h1] at hc;exact Option.some.inj hc
     clear hc h1;have hcj:=hown3.cellAt j Cf;have ej:(zer j++ivs (d::E.drop (j+1)))[j]?=some (Value.int .i64 (d:Int)):=by
      rw [Au Jh];simp [zer,ivs]
     rw [ej] at hcj;have hcc:=hown3.cellAt d Cf;have ec:(zer j++ivs (d::E.drop (j+1)))[d]?=some (Value.int .i64 (y:Int)):=by
      rw [Au (by simp [zer];omega)];simp only [zer,List.length_replicate];rw [show d - j=(d - (j+1))+1 by omega];simp only [ivs,List.map_cons,F',List.getElem?_map,List.getElem?_drop];rw [show j+1+(d - (j+1))=d by omega,h4];rfl
     rw [ec] at hcc;have hfz:=hown3.frozenAt j;have hw3:=hown3.stored j (.int .i64 (y:Int));have e3:(zer j++ivs (d::E.drop (j+1))).set j (.int .i64 (y:Int))=zer j++ivs (y::E.drop (j+1)):=ET j _ _ _;rw [e3] at hw3;have hown4:=hw3.1;have hbx4:(wr.setCell ⟨eb,j,none⟩ (.int .i64 (y:Int))).heap[b]?=some (Obj.cells #[Value.pointer none,.slice none 0 0,.slice (some ⟨lb,lo,none⟩) N lc,.slice ra rn rc,.slice (some ⟨eb,0,none⟩) N N] 78 (0,0)):=(Ad wr ⟨eb,j,none⟩ _ b (by show b≠eb;omega)).trans hbx3;have hbel4:=hbel3.grown hw3.2 hbel3.size (fun k h=>Ig);clear hw3 e3 ec ej;have H5:=hid h5;have hdN:d < N:=Cf
     clear h5 h4;go_upto_region 8 with fail;refine wp_region_held_drew (S:=fun w'=>w'.cell? ⟨b,4,none⟩=some (.slice (some ⟨eb,0,none⟩) N N)/\w'.cell? ⟨eb,d,none⟩=some (.int .i64 (y:Int))) Ci ?_ (fun hHeld=>?_)
     ·exact⟨c4,hcc⟩
     refine tk 0 ?_;try simp only [Act.put,ls]
     refine tk 1 ?_;try simp only [Act.put,ls]
     refine tk 2 ?_;try simp only [Act.put,ls]
     refine tk 3 ?_;try simp only [Act.put,ls]
     refine tk 4 ?_;try simp only [Act.put,ls]
     refine tk 5 ?_;try simp only [Act.put,ls]
     refine tk 6 ?_;try simp only [Act.put,ls]
     refine tk 7 ?_;try simp only [Act.put,ls]
     refine tk 8 ?_;try simp only [Act.put,ls]
     refine tk 9 ?_;try simp only [Act.put,ls]
     refine tk 10 ?_;try simp only [Act.put,ls]
     refine tk 11 ?_;try simp only [Act.put,ls]
     refine tk 12 ?_;try simp only [Act.put,ls]
     refine tk 13 ?_;try simp only [Act.put,ls]
     refine tk 14 ?_;try simp only [Act.put,ls]
     refine wpAnyH_ready (rs:=[15]) Ci Cm (AllReadyH.cons (o:=?_) ?_ (fun K hK=>?_) AllReadyH.nil)
     rotate_left
     ·exact Ax
     go_simp;go_wp2_with fail;refine hK.out _ _ ?_ (fun hHeld15=>?_)
     ·exact⟨c4,hcc⟩
     clear hK K
     try simp only [Act.put,ls]
     refine tk 16 ?_;try simp only [Act.put,ls]
     refine tk 17 ?_;try simp only [Act.put,ls]
     refine tk 18 ?_;try simp only [Act.put,ls]
     refine wpAnyH_ready (rs:=[19]) Ci Cm (AllReadyH.cons (o:=?_) ?_ (fun K hK=>?_) AllReadyH.nil)
     rotate_left
     ·exact Ax
     go_simp;go_wp2_with fail;refine hK.out _ _ ?_ (fun hHeld19=>?_)
     ·exact⟨by unfold World.cell?;rw [show ((wr.setCell ⟨eb,j,none⟩ (.int .i64 (y:Int))).drew.heap[b]?=(wr.setCell ⟨eb,j,none⟩ (.int .i64 (y:Int))).heap[b]?) from rfl,hbx4];rfl,(World.cell?_setCell_other (w:=wr) (a:=⟨eb,j,none⟩) (b:=⟨eb,d,none⟩) (v:=.int .i64 (y:Int)) (by intro hh;injection hh with _ hh;omega)).trans hcc⟩
     clear hK K hHeld19 hHeld15 hHeld
     try simp only [Act.put,ls]
     refine wpAnyH_done Ci ?_ _;have hown5:=World.ownsRow.drew hown4;have hbel5:=hbel4.drew;have hbx5:(wr.setCell ⟨eb,j,none⟩ (.int .i64 (y:Int))).drew.heap[b]?=some (Obj.cells #[Value.pointer none,.slice none 0 0,.slice (some ⟨lb,lo,none⟩) N lc,.slice ra rn rc,.slice (some ⟨eb,0,none⟩) N N] 78 (0,0)):=hbx4;generalize (wr.setCell ⟨eb,j,none⟩ (.int .i64 (y:Int))).drew=w6 at hown5 hbel5 hbx5 ⊢;clear hown4 hbel4 hbx4 hown3 hbel3 hbx3 hcj hcc c4 hfz;go_wp2_with fail;go_roundw
     case rel=>exact⟨t+1,y,Cf,rfl,H5.out,hown5,hbx5,hbel5⟩
     case measure=>simp [intOf];omega
end Rnd
namespace Rnd
open Go.RowKit
open Grd (Pt Fo tB VB DG)
open Shp (pZ eF xZ)
def foL:List Pt->Fo
 | []=>.nil
 | p::r=>.cons p ((foL r).take p.n.toNat) ((foL r).drop p.n.toNat)
theorem kQ3:∀ (l:List Pt) (i:Nat) (o st:List Nat),VB (l.map Pt.n) i=some (o,st)->(foL l).flat=l/\(foL l).good/\(foL l).count=st.length:=by
 intro l
 induction l with
 | nil=>intro i o st h;simp only [List.map_nil,VB,Option.some.injEq,Prod.mk.injEq] at h;exact⟨rfl,trivial,by rw [<- h.2];rfl⟩
 | cons p r ih =>
  intro i o st h;rw [List.map_cons,VB] at h;cases hr:VB (r.map Pt.n) (i+1) with
  | none=>rw [hr] at h;cases h
  | some x =>
   obtain⟨o1,st1⟩:=x;rw [hr] at h;simp only [] at h;split at h
   ·rename_i hk;obtain⟨h1,h2,h3⟩:=ih _ _ _ hr;simp only [Option.some.injEq,Prod.mk.injEq] at h;obtain⟨n,hn⟩:=Aa hk.1;obtain⟨a1,a2,a3,a4,a5⟩:=Grd.Fo.split n (foL r) Cf h2;have hnn:p.n.toNat=n:=by omega
    refine⟨?_,⟨by rw [hnn,a4,hn],by rw [hnn];exact a2,by rw [hnn];exact a3⟩,?_⟩
    ·simp only [foL,Fo.flat,hnn];rw [<- a1,h1]
    ·rw [<- h.2,hn];simp [foL,Fo.count,hn,a5,h3]
   ·exact C4
theorem LQ2 {l:List Pt} (h:DG (l.map Pt.n)=true):(foL l).flat=l/\(foL l).good/\(foL l).count=1:=by
 unfold DG at h;cases hr:VB (l.map Pt.n) 0 with
 | none=>rw [hr] at h;cases h
 | some x =>
  obtain⟨o,st⟩:=x;rw [hr] at h;obtain⟨h1,h2,h3⟩:=kQ3 l 0 o st hr;exact⟨h1,h2,by rw [h3];simpa using h⟩
def pQ2 (l:List Pt) (raw:Nat->List UInt8):List UInt8:=tx (txF raw (foL l) 0) 0
def DQ2 (l:List Pt) (raw:Nat->List UInt8):Value:=if fF l then AQ2 (pQ2 l raw) else .tuple #[.string ⟨#[]⟩,.int .i64 8]
theorem QQ2:∀ (f:Fo),f.good->(∀ p∈f.flat,AE p=true/\p.w.length<=1048576)->FOk f
 | .nil,_,_=>trivial
 | .cons p k r,⟨h1,h2,h3⟩,h=>by
  obtain⟨hp,hw⟩:=h p (by simp [Fo.flat]);refine⟨⟨?_,?_,hw⟩,QQ2 k h2 fun q hq=>h q (by simp [Fo.flat,hq]),QQ2 r h3 fun q hq=>h q (by simp [Fo.flat,hq])⟩
  ·simp [AE] at hp;omega
  ·rw [h1];simp only [AE,Bool.and_eq_true,Bool.not_eq_true',decide_eq_false_iff_not] at hp;refine⟨Cf,fun hm=>?_⟩;have:=hp.1.2;rw [hm] at this;simp at this;omega
variable {E:List Nat}
theorem UQ2:∀ (f:Fo) (o:Nat),f.good->(∀ x,o<=x->x < o+f.size->E[x]?=some (eF f o x))->∀ j p,f.flat[j]?=some p->∃ k:Fo,(k.count:Int)=p.n/\E[o+j]?=some (o+j+1+k.size)/\yQ1 E (o+j+1) (o+j+1+k.size) (pZ k (o+j+1))/\o+j+1+k.size<=o+f.size
 | .nil,_,_,_,j,p,h=>by simp [Fo.flat] at h
 | .cons p k r,o,⟨g1,g2,g3⟩,hE,j,q,h=>by
  have hs:(Fo.cons p k r).size=1+k.size+r.size:=rfl;have hfl:=Grd.Fo.flat_len k;rw [hs] at hE ⊢;have eK:∀ x,o+1<=x->x < o+1+k.size->E[x]?=some (eF k (o+1) x):=fun x a b=>Dt
  have eR:∀ x,o+1+k.size<=x->x < o+1+k.size+r.size->E[x]?=some (eF r (o+1+k.size) x):=fun x a b=>Du
  cases j with
  | zero =>
   simp only [Fo.flat,H',Option.some.injEq] at h;subst h;exact⟨k,g1,by rw [Nat.add_zero,hE o Cf Cf];simp [eF],SQ2 k (o+1) eK,Cf⟩
  | succ j =>
   simp only [Fo.flat,F'] at h;by_cases hj:j < k.flat.length
   ·rw [List.getElem?_append_left hj] at h;obtain⟨m,a,b,c,d⟩:=UQ2 k (o+1) g2 eK j q h;rw [show o+1+j=o+(j+1) by omega] at b c d;exact⟨m,a,b,c,Cf⟩
   ·rw [Au Cf] at h;obtain⟨m,a,b,c,d⟩:=UQ2 r (o+1+k.size) g3 eR _ q h;rw [show o+1+k.size+(j - k.flat.length)=o+(j+1) by omega] at b c d;exact⟨m,a,b,c,Cf⟩
theorem hQ3 {l:List Pt}{raw:Nat->List UInt8}{rv:Value}{lb lo lc:Nat}{w:World} (hc:fF l=true) (hw:∀ p∈l,p.w.length<=1048576) (few:l.length<=100000000) (hlb:lb < w.heap.size)
  (hp:∀ j p,l[j]?=some p->w.cell? ⟨lb,lo+j*3,none⟩=some (.int .u8 (p.k.toNat:Int))/\w.cell? ⟨lb,lo+j*3+1,none⟩=some (.int .i64 p.n)/\w.cell? ⟨lb,lo+j*3+2,none⟩=some (.string ⟨p.w.toArray⟩))
  (hr:(rv=.slice none 0 0/\∀ j,raw j=[])∨∃ rb ro cap,rv=.slice (some ⟨rb,ro,none⟩) l.length cap/\rb < w.heap.size/\∀ j,j < l.length->w.cell? ⟨rb,ro+j,none⟩=some (.string ⟨(raw j).toArray⟩))
  (ht:(pQ2 l raw).length<=1099511627776) :
  Calls Tryz.prog 23 #[.slice (some ⟨lb,lo,none⟩) l.length lc,rv] w fun e w'=>e=.returned (AQ2 (pQ2 l raw))/\Below w.heap.size w w':=by
 have hc':DG (l.map Pt.n)=true/\∀ p∈l,AE p=true:=by simpa [fF] using hc
 obtain⟨h1,h2,h3⟩:=LQ2 hc'.1;have hfk:=QQ2 (foL l) h2 (by rw [h1];exact fun p hp=>⟨hc'.2 p hp,hw p hp⟩);have hsz:(foL l).size=l.length:=by rw [<- Grd.Fo.flat_len,h1]
 unfold pQ2 at ht ⊢;generalize foL l=f at *;have hE:∀ x,0<=x->x < 0+f.size->((List.range l.length).map (eF f 0))[x]?=some (eF f 0 x):=fun x _ hx=>by rw [List.getElem?_map,List.getElem?_range Cf];rfl
 have hch:=UQ2 f 0 h2 hE;rw [h1] at hch;simp only [Nat.zero_add] at hch;refine aQ3 (E:=(List.range l.length).map (eF f 0)) (by have:=count_le f;omega) few hlb hp hr (by rw [List.length_map,List.length_range]) (fun x y hxy=>?_) (fun j p e hj he=>?_) (fun eb ec=>?_) ht
 ·obtain⟨p,hpx⟩:∃ p,l[x]?=some p:=⟨_,M' (by have:=(Ai.1 hxy).1;simpa using this)⟩;obtain⟨k,_,hk,_⟩:=hch x p hpx;rw [hxy] at hk;have:=Option.some.inj hk;omega
 ·obtain⟨k,a,b,c,d⟩:=hch j p hj;rw [he] at b;have hb:=Option.some.inj b;refine⟨pZ k (j+1),by rw [xZ,a],by rw [hb];exact c,Cf,by rw [xZ];have:=count_le k;omega⟩
 ·have hK:=RQ2 (raw:=raw) (lv:=.slice (some ⟨lb,lo,none⟩) l.length lc) (rv:=rv) (ev:=.slice (some ⟨eb,0,none⟩) l.length ec) f 0 hfk (fun x p hx=>by rw [h1] at hx;rw [Nat.zero_add];exact hx) hE Cf;cases f with
  | nil=>simp [Fo.count] at h3
  | cons q k r=>exact (hK.law 0 0 _ rfl rfl).1
end Rnd
namespace Rnd
open Go.RowKit
open Grd (Pt Fo tB VB DG)
theorem nQ3 {w:World} (a:Option Addr) (cap:Nat) (l:List Pt) (hp:tB w a l) (hl:l.length<=100000000) (hw:∀ p∈l,p.w.length<=1048576) (hT:NC w) (ht:fF l=true->(pQ2 l fun _=>[]).length<=1099511627776) :
  Calls Tryz.prog 10 #[.slice a l.length cap] w fun e w'=>e=.returned (DQ2 l fun _=>[])/\Below w.heap.size w w':=by
 have HC:=hid (qF a cap l Cf hp hw hT);cases hc:fF l with
 | false =>
  have HO:Hid (DQ2 l (fun _=>[])=.tuple #[.string ⟨#[]⟩,.int .i64 8]):=hid (by unfold DQ2;rw [if_neg (by rw [hc];decide)]);rw [hc] at HC;clear hp hw hT ht hc;go_enter Tryz.func10,Tryz.ntmps10;go_wp2_with fail;refine HC.out.mono ?_;rintro e w2 ⟨rfl,hb⟩;simp only [if_neg Bool.false_ne_true];go_wp2_with fail;go_ret2;exact⟨I5,hb⟩
 | true =>
  have HO:Hid (DQ2 l (fun _=>[])=AQ2 (pQ2 l fun _=>[])):=hid (by unfold DQ2;rw [if_pos hc]);have HW:=hid (fun (w1:World) (hb:Below w.heap.size w w1)=>(by
   rcases hp with rfl|⟨lb,lo,rfl,h1,h2⟩
   ·exact absurd hc Ch
   ·exact hQ3 (w:=w1) (lc:=cap) (rv:=.slice none 0 0) hc hw hl Iu (fun j p hj=>⟨eQ2 hb h1 (h2 j p hj).1,eQ2 hb h1 (h2 j p hj).2.1,eQ2 hb h1 (h2 j p hj).2.2⟩) (.inl ⟨rfl,fun _=>rfl⟩) (ht hc) :
   Calls Tryz.prog 23 #[.slice a l.length cap,.slice none 0 0] w1 fun e w'=>e=.returned (AQ2 (pQ2 l fun _=>[]))/\Below w1.heap.size w1 w'))
  rw [hc] at HC;clear hp hw hT ht hc;go_enter Tryz.func10,Tryz.ntmps10;go_wp2_with fail;refine HC.out.mono ?_;rintro e w2 ⟨rfl,hb⟩;simp only [if_true];go_wp2_with fail;refine (HW.out w2 hb).mono ?_;rintro e w3 ⟨rfl,hb3⟩;have hb4:=hid (hb.trans (hb3.mono hb.size));clear hb hb3;unfold AQ2 at HO ⊢;generalize (if 65536 < (pQ2 l fun _=>[]).length then [] else pQ2 l fun _=>[])=S at HO ⊢;generalize (if 65536 < (pQ2 l fun _=>[]).length then (2:Int) else 0)=M at HO ⊢;go_wp2_with fail;go_ret2;exact⟨I5,hb4.out⟩
end Rnd
