import Derived.Test.YtfmpphplbdojbaaGreatDoorQAE
import Derived.WalkSpells
import Derived.Deep.QuietTactic
import Derived.WalkMore
import Derived.Maps.AppendAt
import Derived.Deep.DeepCutAuto
import Derived.OwnWalk
namespace Go.Proofs.YtfmpphplbdojbaaGreatDoor
open Lib(hid)
set_option linter.all false
set_option maxHeartbeats 40000000
set_option maxRecDepth 100000
section
open Go.RowKit
theorem aA {w w':World}{a:Addr}{v:Value} (hn:Below w.heap.size w w') (h:w.cell? a=some v):w'.cell? a=some v:=by
 rw [hn.cell (World.block_lt_of_cell? w a h)];exact h
theorem dA {w w1 w2:World} (h:Below w.heap.size w w1) (k:Below w1.heap.size w1 w2):Below w.heap.size w w2:=h.trans (k.mono h.size)
theorem BH (E:Ev) (c:Nat) (i:Int) (w:World) (h0:w.cell? ⟨c,0,none⟩=some (.string ⟨E.s.toArray⟩)) (h1:w.cell? ⟨c,1,none⟩=some (.slice E.ta E.l.length E.tcap)) (hl:Lie E c w) :
  Calls Tryz.prog 29 #[.pointer (some ⟨c,0,none⟩),.int .i64 i] w fun e w'=>e=.returned (.string ⟨(E.word i).toArray⟩)/\Below w.heap.size w w':=by
 by_cases hi:i < 0
 ·have d0:decide (i < 0)=true:=decide_eq_true hi;have hw:E.word i=[]:=by unfold Env.word;rw [if_pos hi]
  rw [hw];clear hi hw hl;go_enter Tryz.func29,Tryz.ntmps29;go_wp2_with fail
  all_goals (go_ret;exact⟨rfl,Ej⟩)
 ·have d0:decide (i < 0)=false:=decide_eq_false hi;obtain⟨n,rfl⟩:=Aa (Int.not_lt.1 hi);by_cases hn:n < E.l.length
  ·have d1:decide ((E.l.length:Int)<=(n:Int))=false:=decide_eq_false Cf;have ht:E.l[n]?=some (E.l[n]):=M' hn;have hw:E.word (n:Int)=if E.l[n].kind=9 then [59] else if E.l[n].kind=8∨E.l[n].kind=2 then (E.s.take E.l[n].to).drop E.l[n].fr else []:=by
    unfold Env.word;rw [if_neg hi];simp only [Ae,ht]
   obtain⟨b,o,hta,_,c0,c1,c2⟩:=hl.toks n _ ht;obtain⟨f1,f2⟩:=hl.fits _ (List.getElem_mem hn);generalize E.l[n]=t at *;obtain⟨k,fr,tl⟩:=t;simp only [] at *;rw [hta] at h1;have b0:(0:Int)<=(n:Int):=Cf
   have b1:(n:Int) < (E.l.length:Int):=Cf
   have hB:=(J' w.heap.size w).alloc (C' _) (Obj.cells #[.int .u8 (k.toNat:Int),.int .i64 (fr:Int),.int .i64 (tl:Int)] 63);clear hl ht hta;by_cases k9:k=9
   ·subst k9;rw [if_pos rfl] at hw;have HW:=hid hw;clear hw f1 f2;go_enter Tryz.func29,Tryz.ntmps29;go_wp2_with fail
    all_goals (go_ret;exact⟨by rw [HW.out];rfl,by first|exact hB|exact hB.drew⟩)
   ·by_cases k82:k=8∨k=2
    ·rw [if_neg k9,if_pos k82] at hw;have HW:=hid hw;clear hw;have g0:(0:Int)<=(fr:Int):=by omega
     have g1:(fr:Int)<=(tl:Int):=Cf
     have g2:(tl:Int)<=(E.s.length:Int):=Cf
     rcases k82 with rfl|rfl
     ·replace hB:Below w.heap.size w (w.alloc (Obj.cells #[.int .u8 8,.int .i64 (fr:Int),.int .i64 (tl:Int)] 63)):=hB;have hbx:=heap_alloc_new w (Obj.cells #[.int .u8 8,.int .i64 (fr:Int),.int .i64 (tl:Int)] 63);have q0:=aA hB h0;replace c0:w.cell? ⟨b,o+n*3,none⟩=some (.int .u8 8):=c0;go_enter Tryz.func29,Tryz.ntmps29;go_wp2_with fail;generalize (w.alloc (Obj.cells #[.int .u8 8,.int .i64 (fr:Int),.int .i64 (tl:Int)] 63))=w1 at *;generalize hq:w.heap.size=q at *;have e1:w1.cell? ⟨q,1,none⟩=some (.int .i64 (fr:Int)):=by simp [World.cell?,hbx]
      have e2:w1.cell? ⟨q,2,none⟩=some (.int .i64 (tl:Int)):=by simp [World.cell?,hbx]
      clear hbx c0 c1 c2 h1 h0;go_region;go_wp2_with fail;go_ret;subst hq;exact⟨Fu,hB.drew⟩
     ·replace hB:Below w.heap.size w (w.alloc (Obj.cells #[.int .u8 2,.int .i64 (fr:Int),.int .i64 (tl:Int)] 63)):=hB;have hbx:=heap_alloc_new w (Obj.cells #[.int .u8 2,.int .i64 (fr:Int),.int .i64 (tl:Int)] 63);have q0:=aA hB h0;replace c0:w.cell? ⟨b,o+n*3,none⟩=some (.int .u8 2):=c0;go_enter Tryz.func29,Tryz.ntmps29;go_wp2_with fail;generalize (w.alloc (Obj.cells #[.int .u8 2,.int .i64 (fr:Int),.int .i64 (tl:Int)] 63))=w1 at *;generalize hq:w.heap.size=q at *;have e1:w1.cell? ⟨q,1,none⟩=some (.int .i64 (fr:Int)):=by simp [World.cell?,hbx]
      have e2:w1.cell? ⟨q,2,none⟩=some (.int .i64 (tl:Int)):=by simp [World.cell?,hbx]
      clear hbx c0 c1 c2 h1 h0;go_region;go_wp2_with fail;go_ret;subst hq;exact⟨Fu,hB.drew⟩
    ·rw [if_neg k9,if_neg k82] at hw;simp only [not_or] at k82;have cs:∀ m:Nat,m < 256->k≠UInt8.ofNat m->((k.toNat:Int)==(m:Int))=false:=by
      intro m hm hne;rw [beq_eq_false_iff_ne];intro e;apply hne;apply Av.1;rw [UInt8.toNat_ofNat',Nat.mod_eq_of_lt Cf];omega
     have d9:((k.toNat:Int)==9)=false:=cs 9 Ch k9;have d8:((k.toNat:Int)==8)=false:=cs 8 Ch k82.1;have d2:((k.toNat:Int)==2)=false:=cs 2 Ch k82.2;have HW:=hid hw;clear hw f1 f2 cs k9 k82;go_enter Tryz.func29,Tryz.ntmps29;go_wp2_with fail
     all_goals (go_ret;exact⟨by rw [HW.out];rfl,by first|exact hB|exact hB.drew⟩)
  ·have d1:decide ((E.l.length:Int)<=(n:Int))=true:=decide_eq_true Cf;have hw:E.word (n:Int)=[]:=by unfold Env.word;rw [if_neg hi];simp only [Ae,Ap (Nat.le_of_not_lt hn)]
   rw [hw];clear hw hl;go_enter Tryz.func29,Tryz.ntmps29;go_wp2_with fail
   all_goals (go_ret;exact⟨rfl,Ej⟩)
end
namespace Grd
open Go.RowKit
structure Pt where
 k:UInt8
 n:Int
 w:List UInt8
def Pt.cells (p:Pt):List Value:=[.int .u8 (p.k.toNat:Int),.int .i64 p.n,.string ⟨p.w.toArray⟩]
theorem qL {w:World}{base:Nat}{e:TypeId}{size:Nat}{a:Option Addr}{n cap m:Nat}{xs:List Value} (hm:m<=n)
  (h:w.ownsRow base e size (.slice a n cap) n xs):w.ownsRow base e size (.slice a m cap) m (xs.take (m*size)):=by
 obtain⟨h1,h2⟩:=h;rcases h2 with ⟨h0,h3⟩|⟨g,cap',cur,hv,hg,hh,hn,hcap,hsz,htake⟩
 ·cases h0;have:m=0:=by omega
  subst this;exact⟨Cm,.inl ⟨rfl,rfl⟩⟩
 ·cases hv;refine⟨by rw [List.length_take,h1];exact Nat.min_eq_left (Nat.mul_le_mul_right _ hm),.inr ⟨g,cap,cur,rfl,hg,hh,Cf,hcap,hsz,?_⟩⟩;rw [<- htake,List.take_take,Nat.min_eq_left (Nat.mul_le_mul_right _ hm)]
theorem ID {w:World}{base:Nat}{e:TypeId}{size:Nat}{v:Value}{n:Nat}{xs:List Value} (h:w.ownsRow base e size v n xs):∃ a cap,v=.slice a n cap:=by
 rcases h.2 with ⟨rfl,rfl⟩|⟨g,cap,cur,rfl,_⟩
 ·exact⟨_,_,rfl⟩
 ·exact⟨_,_,rfl⟩
theorem IK {w:World}{base:Nat}{e:TypeId}{size:Nat}{a:Option Addr}{n cap:Nat}{xs:List Value} (h:w.ownsRow base e size (.slice a n cap) n xs):n<=cap:=by
 rcases h.2 with ⟨h0,h3⟩|⟨g,cap',cur,hv,hg,hh,hn,_⟩
 ·exact Cf
 ·cases hv;exact hn
theorem oS (k:IntKind) (n:Int):∀ u∈[Value.int k n],u.oneCell'=true:=by
 intro u hu;simp at hu;subst hu;rfl
def tB (w:World) (a:Option Addr) (l:List Pt):Prop :=
 l=[]∨∃ b off,a=some ⟨b,off,none⟩/\b < w.heap.size/\∀ j p,l[j]?=some p ->
  w.cell? ⟨b,off+j*3,none⟩=some (.int .u8 (p.k.toNat:Int))/\w.cell? ⟨b,off+j*3+1,none⟩=some (.int .i64 p.n)/\w.cell? ⟨b,off+j*3+2,none⟩=some (.string ⟨p.w.toArray⟩)
def LR (w:World) (a:Option Addr) (l:List Int):Prop :=
 l=[]∨∃ b off,a=some ⟨b,off,none⟩/\b < w.heap.size/\∀ j n,l[j]?=some n->w.cell? ⟨b,off+j,none⟩=some (.int .i64 n)
theorem tB.later {w w':World}{a:Option Addr}{l:List Pt} (h:tB w a l) (hb:Below w.heap.size w w'):tB w' a l:=by
 rcases h with h|⟨b,off,e,hlt,hc⟩
 ·exact .inl h
 ·refine .inr ⟨b,off,e,Af hlt hb.size,fun j p hj=>?_⟩;rw [hb.cell (p:=⟨b,off+j*3,none⟩) hlt,hb.cell (p:=⟨b,off+j*3+1,none⟩) hlt,hb.cell (p:=⟨b,off+j*3+2,none⟩) hlt];exact hc j p hj
theorem LR.later {w w':World}{a:Option Addr}{l:List Int} (h:LR w a l) (hb:Below w.heap.size w w'):LR w' a l:=by
 rcases h with h|⟨b,off,e,hlt,hc⟩
 ·exact .inl h
 ·refine .inr ⟨b,off,e,Af hlt hb.size,fun j p hj=>?_⟩;rw [hb.cell (p:=⟨b,off+j,none⟩) hlt];exact hc j p hj
end Grd
namespace Grd
open Go.RowKit
def VB:List Int->Nat->Option (List Nat × List Nat)
 | [],_=>some ([],[])
 | k::r,i=>match VB r (i+1) with
  | none=>none
  | some (o,st)=>if 0<=k/\k<=st.length then some ((if k=0 then i+1 else o.getD (st.getD (k.toNat - 1) 0 - (i+1)) 0)::o,i::st.drop k.toNat) else none
def ivs (l:List Nat):List Value:=l.map fun (n:Nat)=>Value.int .i64 (n:Int)
def zer (i:Nat):List Value:=List.replicate i (Value.int .i64 0)
theorem mN:∀ (ks:List Int) (i:Nat) (o st:List Nat),VB ks i=some (o,st)->o.length=ks.length/\st.length<=ks.length/\∀ x∈st,i<=x/\x < i+ks.length
 | [],i,o,st,h=>by simp only [VB,Option.some.injEq,Prod.mk.injEq] at h;obtain⟨rfl,rfl⟩:=h;simp
 | k::r,i,o,st,h=>by
  rw [VB] at h;cases hr:VB r (i+1) with
  | none=>rw [hr] at h;cases h
  | some x =>
   obtain⟨o',st'⟩:=x;have ih:=mN r (i+1) o' st' hr;rw [hr] at h;simp only [] at h;split at h
   ·simp only [Option.some.injEq,Prod.mk.injEq] at h;obtain⟨rfl,rfl⟩:=h;refine⟨by simp [ih.1],Cn,?_⟩;intro x hx;rcases List.mem_cons.1 hx with rfl|hx
    ·exact Cm
    ·have:=ih.2.2 x (List.mem_of_mem_drop hx);simp;omega
   ·exact C4
theorem sR (ks:List Int) (_:∀ j,j<=ks.length->True):∀ i,i<=ks.length->VB (ks.drop i) i=none->VB ks 0=none:=by
 intro i
 induction i with
 | zero=>intro _ h;simpa using h
 | succ i ih =>
  intro hi hn;apply ih Cf;rw [An Cf,VB,hn]
theorem Tryz.infoI3:(Tryz.prog.info? 3).map (fun i=>(i.zero,i.size,i.bytes))=some (some (.int .i64 0),1,8):=Ci
def eD (ks:List Int) (w:World) (e:Ending) (w':World):Prop:=Below w.heap.size w w' /\
   match VB ks 0 with
   | none=>e=.returned (.tuple #[.slice none 0 0,.int .i64 0,.bool false])
   | some (o,st)=>∃ vo,e=.returned (.tuple #[vo,.int .i64 (st.length:Nat),.bool true])/\w'.ownsRow w.heap.size 3 1 vo o.length (ivs o)
theorem eD.no {ks:List Int}{w w':World} (h:VB ks 0=none) (hb:Below w.heap.size w w'):eD ks w (.returned (.tuple #[.slice none 0 0,.int .i64 0,.bool false])) w':=by
 unfold eD;rw [h];exact⟨hb,rfl⟩
theorem eD.yes {ks:List Int}{w w':World}{o st:List Nat}{vo:Value}{n:Int} (h:VB ks 0=some (o,st)) (hb:Below w.heap.size w w') (hn:n=(st.length:Nat)) (ho:w'.ownsRow w.heap.size 3 1 vo o.length (ivs o)) :
  eD ks w (.returned (.tuple #[vo,.int .i64 n,.bool true])) w':=by
 unfold eD;rw [h];exact⟨hb,vo,by rw [hn],ho⟩
theorem UW (j:Nat) (o:List Nat) (u:Value):(zer (j+1)++ivs o).set j u=zer j++u::ivs o:=by
 unfold zer;rw [List.replicate_succ',List.append_assoc,List.set_append_right _ _ Cm];simp
theorem ET (j:Nat) (o:List Nat) (u v:Value):(zer j++u::ivs o).set j v=zer j++v::ivs o:=by
 unfold zer;rw [List.set_append_right _ _ Cm];simp
theorem RS (ks:List Int) (j:Nat) (hj:j < ks.length) (o st:List Nat) (h:VB (ks.drop (j+1)) (j+1)=some (o,st)) :
  VB (ks.drop j) j=if 0<=ks[j]/\ks[j]<=st.length then some ((if ks[j]=0 then j+1 else o.getD (st.getD (ks[j].toNat - 1) 0 - (j+1)) 0)::o,j::st.drop ks[j].toNat) else none:=by
 rw [An hj,VB,h]
theorem LO (st:List Nat) (k:Nat) (_:k<=st.length) (j:Nat):ivs (j::st.drop k).reverse=(ivs st.reverse).take ((st.length - k)*1)++[Value.int .i64 (j:Int)]:=by
 unfold ivs;rw [List.reverse_cons,List.map_append,<- List.map_take,Nat.mul_one]
 congr 2
 rw [List.reverse_drop,]
theorem MW (st:List Nat) (k:Nat) (h0:0 < k) (hk:k<=st.length):(ivs st.reverse)[st.length - k]?=some (Value.int .i64 ((st.getD (k - 1) 0:Nat):Int)):=by
 unfold ivs;rw [List.getElem?_map,List.getElem?_reverse Cf,show st.length - 1 - (st.length - k)=k - 1 from Cf,M' Cf];simp [List.getD,M' (show k - 1 < st.length by omega)]
theorem kU (b off cap:Nat) (l:List Pt) (w:World) (hl:l.length<=1099511627776) (hb:b < w.heap.size)
  (hc:∀ j p,l[j]?=some p->w.cell? ⟨b,off+j*3+1,none⟩=some (.int .i64 p.n)) :
  Calls Tryz.prog 74 #[.slice (some ⟨b,off,none⟩) l.length cap] w (eD (l.map Pt.n) w):=by
 obtain⟨i0,hi,hz0,hz1,hz2⟩:=info_parts Tryz.infoI3;go_enter Tryz.func74,Tryz.ntmps74;go_wp2_with (refine wpList_make_full _ rfl _ _ 55 rfl w.heap.size 3 i0 (.int .i64 0) 1 Tryz.underlying55 hi hz0 hz1 .i64 .i64 l.length l.length l.length rfl rfl rfl rfl Jg Cu (C' _) ?_;intro w1 hown hgrow)
 go_loopw [6,7] (fun vo u wr=>∃ (i:Nat) (q:Int) (o st:List Nat),i<=l.length/\u=.int .i64 q/\(i:Int)=q+1/\VB ((l.map Pt.n).drop i) i=some (o,st) /\
   wr.ownsRow w.heap.size 3 1 (.slice (some ⟨w.heap.size,0,none⟩) l.length l.length) l.length (zer i++ivs o)/\wr.ownsRow (w.heap.size+1) 3 1 vo st.length (ivs st.reverse)/\Below w.heap.size w wr)
  (fun _ u _=>((intOf u)+1).toNat)
 case atStart =>
  refine⟨l.length,(l.length:Int) - 1,[],[],C' _,rfl,Cf,?_,?_,As _ _ _ _,(J' _ _).grown hgrow (C' _) (fun k h=>C4)⟩
  ·rw [List.drop_of_length_le Cm];rfl
  ·have e1:(madeCells (Value.int IntKind.i64 0).cells (l.length*1)).toList=zer l.length++ivs []:=by
    rw [show (Value.int IntKind.i64 0).cells=#[Value.int IntKind.i64 0] from rfl,toList_madeCells_one];simp [zer,ivs]
   rw [<- e1];exact hown
 case round =>
  obtain⟨i,q,o,st,hi1,rfl,hq,hends,hown1,hown2,hbel⟩:=hrel;obtain⟨hlo,hls,hst⟩:=mN _ _ _ _ hends;simp only [V',List.length_map] at hlo hls hst;have HE:=hid hends;have HO:=hid hlo;have HS:=hid hst;obtain⟨oa,ocap,rfl⟩:=ID hown2;clear hends hlo hst hown hgrow;by_cases hneg:q < 0
  ·have hi0:i=0:=by omega
   subst hi0;have HF:Hid (VB (l.map Pt.n) 0=some (o,st)):=by have:=HE.out;rw [List.drop_zero] at this;exact this
   clear HE;go_wp2_with fail;go_ret3;refine eD.yes HF.out hbel rfl ?_;rw [HO.out];simpa [zer] using hown1
  ·obtain⟨j,rfl⟩:=Aa (show 0<=q by omega);obtain rfl:i=j+1:=by omega
   have hj:j < l.length:=Cf
   have hcj:=hc j l[j] (M' hj);rw [<- hbel.cell hb] at hcj;have hstep:=RS (l.map Pt.n) j (by simpa using hj) o st HE.out;simp only [List.getElem_map] at hstep;generalize hk:(l[j]).n=k at *;have HST:=hid hstep;have HC:=hid hc;have hnone:VB ((l.map Pt.n).drop j) j=none->VB (l.map Pt.n) 0=none:=sR (l.map Pt.n) (fun _ _=>trivial) j Cn;have HN:=hid hnone;clear hk hc hneg hq hstep hnone;by_cases hk0:k < 0
   ·exact A8
   ·by_cases hk1:(st.length:Int) < k
    ·exact A8
    ·obtain⟨kk,rfl⟩:=Aa (show 0<=k by omega);have hkk:kk<=st.length:=by omega
     have HST2:Hid (VB ((l.map Pt.n).drop j) j=some ((if (kk:Int)=0 then j+1 else o.getD (st.getD (kk - 1) 0 - (j+1)) 0)::o,j::st.drop kk)):=by
      have:=HST.out;rw [if_pos Cf,Ae] at this;exact this
     have hjn:j < l.length*1:=Cf
     have hcell1:=hown1.cellAt j hjn;have hfz:=hown1.frozenAt j;have e0:(zer (j+1)++ivs o)[j]?=some (Value.int .i64 0):=by
      rw [List.getElem?_append_left Jh];simp [zer]
     rw [e0] at hcell1;have hw2:=hown1.stored j (.int .i64 ((j:Int)+1));rw [UW] at hw2;clear HST HN HE e0;go_upto_region 10 with fail;have hown1':=hw2.1;have hown2':=hown2.kept hw2.2 (by
      rcases oa with _|⟨g,go,gp⟩
      ·exact .inl rfl
      ·right
       have:=(hown2.lt g rfl).1;simp [Value.ownBlock];omega)
     have hbel':=hbel.grown hw2.2 hbel.size (fun k h=>by cases h;exact C' _);generalize wr.setCell ⟨w.heap.size,j,none⟩ (.int .i64 ((j:Int)+1))=w2 at *;clear hw2 hown1 hown2 hbel hcell1 hfz hcj;have hfin:∀ E:Nat,E=(if (kk:Int)=0 then j+1 else o.getD (st.getD (kk - 1) 0 - (j+1)) 0)->VB ((l.map Pt.n).drop j) j=some (E::o,j::st.drop kk):=fun E e=>by rw [e];exact HST2.out
     have HFIN:=hid hfin;clear hfin HST2;by_cases hk2:kk=0
     ·subst hk2;have HF:Hid (VB ((l.map Pt.n).drop j) j=some ((j+1)::o,j::st.drop 0)):=HFIN.out (j+1) Cm;clear HFIN;go_upto_region 12 with fail;have hcap:=IK hown2';have hot:=qL (m:=st.length - 0) Cf hown2';have hblk:=hown2'.lt;have h63:st.length - 0+1<=maxLen:=by unfold maxLen;omega
      have hby:(st.length - 0+1)*8<=140737488355328:=Cf
      have hbase:w.heap.size+1<=(w2.alloc (Obj.cells #[.int .i64 (j:Int)] 3)).heap.size:=by have:=hbel'.size;simp;omega
      clear hown2';go_wp2_with (at_builtin;refine wpList_append_own_at _ rfl (.tmp 57) (.tmp 59) 55 rfl (w.heap.size+1) 3 i0 (.int .i64 0) 1 8 Tryz.underlying55 hi hz0 hz1 hz2 rfl Ch _ _ _ rfl (hot.alloc _) ⟨w2.heap.size,0,none⟩ 1 1 [.int .i64 (j:Int)] rfl rfl (cell_one_new _ _ _) (oS _ _) h63 hby hbase ?_);intro v' w4 hown hgrow _ hat;have hA:=(hown1'.alloc (Obj.cells #[.int .i64 (j:Int)] 3)).kept hgrow (by
       right
       intro e;have:=hblk w.heap.size e.symm;omega)
      have hbl:=(hbel'.alloc hbel'.size (Obj.cells #[.int .i64 (j:Int)] 3)).grown hgrow (by have:=hbel'.size;simp;omega) (fun k h=>by have:=(hblk k h).1;omega);clear hgrow hot hown1' hbel' hat hblk;go_wp2_with fail;go_roundw
      case rel =>
       refine⟨j,(j:Int) - 1,(j+1)::o,j::st.drop 0,Cf,rfl,Cf,HF.out,hA,?_,hbl⟩;rw [LO st 0 Cf];simpa using hown
      case measure=>simp [intOf]
     ·have hidx:=HS.out (st.getD (kk - 1) 0) (by
       rw [List.getD_eq_getElem?_getD,M' Cf];exact List.getElem_mem _)
      have hrg:=MW st kk Cf hkk;have HF:Hid (VB ((l.map Pt.n).drop j) j=some (o.getD (st.getD (kk - 1) 0 - (j+1)) 0::o,j::st.drop kk)):=HFIN.out _ (by rw [if_neg Cf]);clear HFIN;generalize st.getD (kk - 1) 0=x at *;obtain⟨hx1,hx2⟩:=hidx;obtain⟨g,hg⟩:∃ g,oa=some ⟨g,0,none⟩:=by
       rcases hown2'.2 with ⟨_,hz⟩|⟨g,_,_,hv,_⟩
       ·exact Cf
       ·cases hv;exact⟨g,rfl⟩
      subst hg;have hcg:=hown2'.cellAt (st.length - kk) Cf;rw [hrg] at hcg;have hcx:=hown1'.cellAt x Cf;have ex:(zer j++Value.int IntKind.i64 (↑j+1)::ivs o)[x]?=some (Value.int .i64 ((o.getD (x - (j+1)) 0:Nat):Int)):=by
       rw [Au (by simp [zer];omega)];simp only [zer,List.length_replicate];obtain⟨y,hy⟩:∃ y,x - j=y+1:=⟨x - j - 1,Cf⟩;have:=HO.out;rw [hy,F',ivs,List.getElem?_map,M' Cf];simp [List.getD,show x - (j+1)=y from Cf,M' (show y < o.length by omega)]
      rw [ex] at hcx;have hcj:=hown1'.cellAt j Cf;have ej:(zer j++Value.int IntKind.i64 (↑j+1)::ivs o)[j]?=some (Value.int .i64 ((j:Int)+1)):=by
       rw [Au Jh];simp [zer]
      rw [ej] at hcj;have hfz:=hown1'.frozenAt j;have hw3:=hown1'.stored j (.int .i64 ((o.getD (x - (j+1)) 0:Nat):Int));rw [ET] at hw3;generalize o.getD (x - (j+1)) 0=E at *;clear ex ej hrg;go_upto_region 12 with fail;have hown1'':=hw3.1;have hown2'':=hown2'.kept hw3.2 (by
       right
       have:=(hown2'.lt g rfl).1;simp [Value.ownBlock];omega)
      have hbel'':=hbel'.grown hw3.2 hbel'.size (fun k h=>by cases h;exact C' _);generalize w2.setCell ⟨w.heap.size,j,none⟩ (.int .i64 (E:Int))=w3 at *;clear hw3 hown1' hown2' hbel' hcg hcx hcj hfz;have hcap:=IK hown2'';have hot:=qL (m:=st.length - kk) Cf hown2'';have hblk:=hown2''.lt;have h63:st.length - kk+1<=maxLen:=Cu
      have hby:(st.length - kk+1)*8<=140737488355328:=Cf
      have hbase:w.heap.size+1<=(w3.alloc (Obj.cells #[.int .i64 (j:Int)] 3)).heap.size:=by have:=hbel''.size;simp;omega
      clear hown2'';go_wp2_with (at_builtin;refine wpList_append_own_at _ rfl (.tmp 57) (.tmp 59) 55 rfl (w.heap.size+1) 3 i0 (.int .i64 0) 1 8 Tryz.underlying55 hi hz0 hz1 hz2 rfl Ch _ _ _ rfl (hot.alloc _) ⟨w3.heap.size,0,none⟩ 1 1 [.int .i64 (j:Int)] rfl rfl (cell_one_new _ _ _) (oS _ _) h63 hby hbase ?_);intro v' w4 hown hgrow _ hat;have hA:=(hown1''.alloc (Obj.cells #[.int .i64 (j:Int)] 3)).kept hgrow (by
       right
       intro e;have:=hblk w.heap.size e.symm;omega)
      have hbl:=(hbel''.alloc hbel''.size (Obj.cells #[.int .i64 (j:Int)] 3)).grown hgrow (by have:=hbel''.size;simp;omega) (fun k h=>by have:=(hblk k h).1;omega);clear hgrow hot hown1'' hbel'' hat hblk;go_wp2_with fail;go_roundw
      case rel =>
       refine⟨j,(j:Int) - 1,E::o,j::st.drop kk,Cf,rfl,Cf,HF.out,hA,?_,hbl⟩;rw [LO st kk Cf];simpa using hown
      case measure=>simp [intOf]
theorem WV (a:Option Addr) (cap:Nat) (w:World):Calls Tryz.prog 74 #[.slice a 0 cap] w (eD [] w):=by
 obtain⟨i0,hi,hz0,hz1,hz2⟩:=info_parts Tryz.infoI3;go_enter Tryz.func74,Tryz.ntmps74;go_wp2_with (refine wpList_make_full _ rfl _ _ 55 rfl w.heap.size 3 i0 (.int .i64 0) 1 Tryz.underlying55 hi hz0 hz1 .i64 .i64 0 0 0 rfl rfl rfl rfl Jg Cu (C' _) ?_;intro w1 hown hgrow);refine wp_loop_rounds 1 ?_;rw [rounds_succ];go_wp2_with fail;go_ret3;refine eD.yes (o:=[]) (st:=[]) rfl ((J' _ _).grown hgrow (C' _) (fun k h=>C4)) rfl ?_;have e1:(madeCells (Value.int IntKind.i64 0).cells (0*1)).toList=ivs []:=by
  rw [show (Value.int IntKind.i64 0).cells=#[Value.int IntKind.i64 0] from rfl,toList_madeCells_one];rfl
 rw [<- e1];exact hown
theorem VU (a:Option Addr) (cap:Nat) (l:List Pt) (w:World) (hl:l.length<=1099511627776) (h:tB w a l) :
  Calls Tryz.prog 74 #[.slice a l.length cap] w (eD (l.map Pt.n) w):=by
 rcases h with rfl|⟨b,off,rfl,hb,hc⟩
 ·exact WV a cap w
 ·exact kU b off cap l w hl hb (fun j p hj=>(hc j p hj).2.1)
def DG (ks:List Int):Bool:=match VB ks 0 with|none=>false|some (_,st)=>st.length==1
def pU (ks:List Int) (w:World) (e:Ending) (w':World):Prop:=Below w.heap.size w w' /\
 ∃ vo,e=.returned (.tuple #[vo,.bool (DG ks)])/\match VB ks 0 with|none=>True|some (o,_)=>w'.ownsRow w.heap.size 3 1 vo o.length (ivs o)
theorem QU (a:Option Addr) (cap:Nat) (l:List Pt) (w:World) (hl:l.length<=1099511627776) (h:tB w a l) :
  Calls Tryz.prog 46 #[.slice a l.length cap] w (pU (l.map Pt.n) w):=by
 have he:=VU a cap l w hl h;unfold eD at he;cases hm:VB (l.map Pt.n) 0 with
 | none =>
  rw [hm] at he;have HE:=hid he;have HM:=hid hm;clear he hm;go_enter Tryz.func46,Tryz.ntmps46;go_wp2_with fail;refine HE.out.mono ?_;rintro e w1 ⟨hb,rfl⟩;go_wp2_with fail;go_ret2;have hw:DG (l.map Pt.n)=false:=by simp [DG,HM.out]
  refine⟨hb,.slice none 0 0,?_,by rw [HM.out];trivial⟩;rw [hw];rfl
 | some x =>
  obtain⟨o,st⟩:=x;rw [hm] at he;have HE:=hid he;have HM:=hid hm;clear he hm;go_enter Tryz.func46,Tryz.ntmps46;go_wp2_with fail;refine HE.out.mono ?_;rintro e w1 ⟨hb,vo,rfl,hown⟩;go_wp2_with fail;go_ret2
  all_goals (refine⟨hb,vo,?_,by rw [HM.out];exact hown⟩)
  all_goals (have hw:DG (l.map Pt.n)=(st.length==1):=by simp [DG,HM.out])
  all_goals (have hw2:((st.length:Int)==1)=(st.length==1):=by rw [Bool.eq_iff_iff];simp;omega)
  all_goals (rw [hw,<- hw2];rfl)
theorem nW (a:Option Addr) (cap:Nat) (l:List Pt) (w:World) (hl:l.length<=1099511627776) (h:tB w a l) :
  Calls Tryz.prog 33 #[.slice a l.length cap] w fun e w'=>e=.returned (.bool (DG (l.map Pt.n)))/\Below w.heap.size w w':=by
 have HE:=hid (QU a cap l w hl h);go_enter Tryz.func33,Tryz.ntmps33;go_wp2_with fail;refine HE.out.mono ?_;rintro e w1 ⟨hb,vo,rfl,_⟩;go_wp2_with fail;go_ret;exact⟨rfl,hb⟩
end Grd
section
open Go.RowKit
structure Nd5 where
 kind:UInt8
 kids:Nat
 word:Int
 fr:Nat
 till:Nat
mutual
def iS:Tr->List Nd5
 | .mk k wd f t ks=>⟨k,ks.length,wd,f,t⟩::mG ks
def mG:List Tr->List Nd5
 | []=>[]
 | t::ts=>iS t++mG ts
end
def OY (x:Nd5):List Value:=[.int .u8 (x.kind.toNat:Int),.int .i64 (x.kids:Int),.int .i64 x.word,.int .i64 (x.fr:Int),.int .i64 (x.till:Int)]
def tV (l:List Nd5):List Value:=l.flatMap OY
theorem aY (l:List Nd5) (x:Nd5):tV (l++[x])=tV l++OY x:=by simp [tV]
theorem sN:∀ t:Tr,(iS t).length=cnt t
 | .mk k wd f t ks=>by
  have h:∀ ks:List Tr,(∀ x∈ks,(iS x).length=cnt x)->(mG ks).length=EB ks:=by
   intro ks
   induction ks with
   | nil=>intro _;rfl
   | cons x xs ih=>intro hx;simp only [mG,EB,O',hx x Cm,ih (fun y hy=>hx y (by simp [hy]))]
  simp only [iS,cnt,Ab];have:=h ks (fun x hx=>sN x);omega
theorem pQ:∀ ks:List Tr,(mG ks).length=EB ks
 | []=>rfl
 | x::xs=>by simp only [mG,EB,O',sN,pQ xs]
theorem tM:∀ a b:List Tr,mG (a++b)=mG a++mG b
 | [],b=>rfl
 | x::a,b=>by simp only [Al,mG,tM a b,List.append_assoc]
theorem CH:∀ a b:List Tr,EB (a++b)=EB a+EB b
 | [],b=>by simp [EB]
 | x::a,b=>by simp only [Al,EB,CH a b];omega
theorem fS:∀ ks:List Tr,ks.length<=EB ks
 | []=>by simp [EB]
 | x::xs=>by have:=fS xs;have:=YR x;simp only [Ab,EB];omega
theorem fN {α:Type}{ks:List α}{i:Nat}{x:α} (h:ks[i]?=some x):ks.take (i+1)=ks.take i++[x]:=by
 rw [List.take_add_one,h];rfl
theorem BQ {ks:List Tr}{i:Nat}{x:Tr} (h:ks[i]?=some x):EB (ks.take i)+cnt x<=EB ks:=by
 have e:ks=ks.take (i+1)++ks.drop (i+1):=(List.take_append_drop _ _).symm;have e2:=congrArg EB e;rw [CH,fN h,CH] at e2;simp only [EB] at e2;omega
def Env.text (E:Env) (wd:Int):List UInt8:=if wd < 0 then [] else match E.l[wd.toNat]? with|some t=>(E.s.take t.to).drop t.fr|none=>[]
def lD (E:Env) (k:UInt8) (wd:Int):List UInt8 :=
 if k=45 then (if E.text wd=[60,45] then [60,45,99,104,97,110] else if E.word (wd+1)=[60,45] then [99,104,97,110,60,45] else E.text wd) else E.text wd
structure Pt3 where
 kind:UInt8
 kids:Nat
 word:List UInt8
mutual
def parts (E:Env):Tr->List Pt3
 | .mk k wd _ _ ks=>⟨k,ks.length,lD E k wd⟩::kC E ks
def kC (E:Env):List Tr->List Pt3
 | []=>[]
 | t::ts=>parts E t++kC E ts
end
def TJ (x:Pt3):List Value:=[.int .u8 (x.kind.toNat:Int),.int .i64 (x.kids:Int),.string ⟨x.word.toArray⟩]
def CF (l:List Pt3):List Value:=l.flatMap TJ
theorem mR (l:List Pt3) (x:Pt3):CF (l++[x])=CF l++TJ x:=by simp [CF]
theorem nI (E:Env):∀ t:Tr,(parts E t).length=cnt t
 | .mk k wd f t ks=>by
  have h:∀ ks:List Tr,(∀ x∈ks,(parts E x).length=cnt x)->(kC E ks).length=EB ks:=by
   intro ks
   induction ks with
   | nil=>intro _;rfl
   | cons x xs ih=>intro hx;simp only [kC,EB,O',hx x Cm,ih (fun y hy=>hx y (by simp [hy]))]
  simp only [parts,cnt,Ab];have:=h ks (fun x hx=>nI E x);omega
theorem ZK (E:Env):∀ ks:List Tr,(kC E ks).length=EB ks
 | []=>rfl
 | x::xs=>by simp only [kC,EB,O',nI,ZK E xs]
theorem yI (E:Env):∀ a b:List Tr,kC E (a++b)=kC E a++kC E b
 | [],b=>rfl
 | x::a,b=>by simp only [Al,kC,yI E a b,List.append_assoc]
theorem pR {E:Env}{k:UInt8}{wd:Int} (h:gB E k wd=true):wd=-1∨∃ n:Nat,wd=(n:Int)/\n < E.l.length:=by
 have key:∀ {P:Prop},(wd < 0->P)->(∀ n:Nat,wd=(n:Int)->E.l.length<=n->P)->(∃ n:Nat,wd=(n:Int)/\n < E.l.length)∨P:=by
  intro P h1 h2;by_cases hn:wd < 0
  ·exact .inr (h1 hn)
  ·obtain⟨n,rfl⟩:=Aa (Int.not_lt.1 hn);by_cases hl:n < E.l.length
   ·exact .inl ⟨n,rfl,hl⟩
   ·exact .inr (h2 n rfl Cf)
 unfold gB at h;split at h
 ·right
  rcases key (P:=False) (fun hn=>by unfold Env.named Env.kind at h;rw [if_pos hn] at h;cases h) (fun n e hl=>by subst e;rw [pI hl] at h;cases h) with h|h
  ·exact h
  ·exact h.elim
 ·split at h
  ·right
   rcases key (P:=False) (fun hn=>by unfold Env.literal Env.kind at h;rw [if_pos hn] at h;cases h) (fun n e hl=>by subst e;unfold Env.literal at h;rw [FG hl] at h;cases h) with h|h
   ·exact h
   ·exact h.elim
  ·split at h
   ·left;assumption
   ·right
    simp only [Bool.and_eq_true,decide_eq_true_eq] at h;rcases key (P:=False) (fun hn=>Cf) (fun n e hl=>by subst e;rw [AG hl] at h;simp at h) with h|h
    ·exact h
    ·exact h.elim
end
